import Derived.Test.YtcggeefhhegeoaaGreatDoorAb17
import Derived.Orders
namespace Go.Proofs.YtcggeefhhegeoaaGreatDoor
namespace Ab
set_option linter.unusedSimpArgs false
set_option linter.unusedVariables false
def zbc2 (C:Cx):List POp→St→(St→Prop)→Prop
 | [],st,K=>K st
 | p :: ps,st,K=>aop C p st fun st'=>(st'.mem=st.mem∧st'.nx=st.nx)∧zbc2 C ps st' K
section
variable {C:Cx} {E:Env}
theorem zdr1 {p:POp} {st:St} {K:St→Prop} (h:aop C p st K):∃ v mw,K (st.app p.dst v mw)∧aop C p st (fun s=>s=st.app p.dst v mw):=by
 unfold aop at h ⊢
 cases hg:zT0 st p.g with
 | none=>simp [hg] at h
 | some g =>
  simp only [hg] at h ⊢
  cases hp:p.po <;> simp only [hp] at h ⊢
  case pick =>
   split at h
   ·split at h
    ·exact ⟨_,_,h.2,h.1,rfl⟩
    ·exact h.elim
   ·exact h.elim
  case call f =>
   obtain ⟨r,h1,h2,h3⟩:=h
   exact ⟨_,_,h3,r,h1,h2,rfl⟩
  case callv =>
   split at h
   ·obtain ⟨r,h1,h2,h3⟩:=h
    exact ⟨_,_,h3,r,h1,h2,rfl⟩
   ·exact h.elim
  case callm f =>
   obtain ⟨l,as,ms,k,r,ms',k',h1,h2,h3,h4,h5⟩:=h
   exact ⟨_,_,h5,l,as,ms,k,r,ms',k',h1,h2,h3,h4,rfl⟩
  case callvm =>
   split at h
   ·obtain ⟨l,as,ms,k,r,ms',k',h1,h2,h3,h4,h5⟩:=h
    exact ⟨_,_,h5,l,as,ms,k,r,ms',k',h1,h2,h3,h4,rfl⟩
   ·exact h.elim
  all_goals
   split at h
   ·exact ⟨_,_,h.2.2,h.1,h.2.1,rfl⟩
   ·exact ⟨_,_,h.2.2,h.1,h.2.1,rfl⟩
theorem zaG0 {x:PX} {f g:Nat→A} (G:zbF2) (h:∀ t ∈ rdsX [x],f t=g t):xv G f x=xv G g x:=by
 cases x <;> first|rfl|exact h _ (by simp [rdsX])
theorem zT1 (x:PX) (xs:List PX) (t:Nat):t ∈ rdsX (x :: xs) ↔ t ∈ rdsX [x]∨t ∈ rdsX xs:=by
 cases x <;> simp [rdsX]
theorem zbv6 {st st2:St}:∀ (xs:List PX),(∀ t ∈ rdsX xs,st.slot t=st2.slot t)→zv3 C st xs=zv3 C st2 xs∧(zav8 C st xs ↔ zav8 C st2 xs)
 | [],_=>⟨rfl,jN⟩
 | x :: xs,h=>by
  have h1:=zaG0 (x:=x) C.G (f:=st.slot) (g:=st2.slot) fun t ht=>h t ((zT1 x xs t).2 (.inl ht))
  obtain ⟨h2,h3⟩:=zbv6 xs fun t ht=>h t ((zT1 x xs t).2 (.inr ht))
  simp only [zv3,zav8,h1,h2,h3,cW]
theorem zcJ4 {st st2:St} (hm:st2.mem=st.mem) (hn:st2.nx=st.nx):st2.m=st.m:=by
 funext x; simp only [St.m,hm,hn]
theorem zaY6 {st:St} {d:Option Nat} {v u:A} {mw:List (Nat×MS)} {st2:St} (h:st.app d u mw=st.app d v []) (hm:st2.mem=st.mem) (hn:st2.nx=st.nx):st2.app d u mw=st2.app d v []:=by
 simp only [St.app,St.mk.injEq,putM,nxt] at h ⊢
 obtain ⟨h1,h2,h3⟩:=h
 refine ⟨?_,by rw [hm]; exact h2,by rw [hn]; exact h3⟩
 cases d with
 | none=>rfl
 | some d =>
  simp only [putF,List.cons.injEq,iC,gH,jW] at h1 ⊢
  exact h1
theorem zcO2 {p:POp} {st st2:St} {v:A} (hm:st2.mem=st.mem) (hn:st2.nx=st.nx) (hr:∀ t ∈ p.rds,st.slot t=st2.slot t)
  (h:aop C p st (fun s=>s=st.app p.dst v [])):aop C p st2 (fun s=>s=st2.app p.dst v []):=by
 have hx:∀ t ∈ rdsX p.xs,st.slot t=st2.slot t:=fun t ht=>hr t (dA _ ht)
 obtain ⟨hv,hgd⟩:=zbv6 (C:=C) p.xs hx
 have hgo:zT0 st2 p.g=zT0 st p.g:=by
  cases hg:p.g with
  | none=>rfl
  | some q=>simp only [zT0]; rw [hr q.1 (dI _ (by simp [hg]))]
 unfold aop at h ⊢
 rw [hgo,← hv,hn,zcJ4 hm hn,← hgd]
 cases hg:zT0 st p.g with
 | none=>simp [hg] at h
 | some g =>
  simp only [hg] at h ⊢
  cases hp:p.po <;> simp only [hp] at h ⊢
  case pick =>
   split at h
   ·rename_i c x y hxs
    simp only [hxs] at hx ⊢
    have e1:=zaG0 (x:=c) C.G (f:=st.slot) (g:=st2.slot) fun t ht=>hx t ((zT1 _ _ _).2 (.inl ht))
    have e2:=zaG0 (x:=x) C.G (f:=st.slot) (g:=st2.slot) fun t ht=>hx t ((zT1 _ _ _).2 (.inr ((zT1 _ _ _).2 (.inl ht))))
    have e3:=zaG0 (x:=y) C.G (f:=st.slot) (g:=st2.slot) fun t ht=>hx t ((zT1 _ _ _).2 (.inr ((zT1 _ _ _).2 (.inr ht))))
    rw [← e1,← e2,← e3]
    split at h
    ·exact ⟨h.1,zaY6 h.2 hm hn⟩
    ·exact h.elim
   ·exact h.elim
  case call f =>
   obtain ⟨r,h1,h2,h3⟩:=h
   exact ⟨r,h1,h2,zaY6 h3 hm hn⟩
  case callv =>
   split at h
   ·obtain ⟨r,h1,h2,h3⟩:=h
    exact ⟨r,h1,h2,zaY6 h3 hm hn⟩
   ·exact h.elim
  case callm f =>
   obtain ⟨l,as,ms,k,r,ms',k',h1,h2,h3,h4,h5⟩:=h
   exact ⟨l,as,ms,k,r,ms',k',h1,h2,h3,h4,zaY6 h5 hm hn⟩
  case callvm =>
   split at h
   ·obtain ⟨l,as,ms,k,r,ms',k',h1,h2,h3,h4,h5⟩:=h
    exact ⟨l,as,ms,k,r,ms',k',h1,h2,h3,h4,zaY6 h5 hm hn⟩
   ·exact h.elim
  all_goals
   split at h
   ·exact ⟨h.1,h.2.1,zaY6 h.2.2 hm hn⟩
   ·exact ⟨h.1,h.2.1,zaY6 h.2.2 hm hn⟩
def SL (ps:List POp) (vs:Nat→A) (st:St) (f:Nat→Bool):Nat→St
 | 0=>st
 | n+1=>match ps[n]? with
  | some p=>if f n then (SL ps vs st f n).app p.dst (vs n) [] else SL ps vs st f n
  | none=>SL ps vs st f n
theorem zcj5 (ps:List POp) (vs:Nat→A) (st:St) (f:Nat→Bool):∀ n,(SL ps vs st f n).mem=st.mem∧(SL ps vs st f n).nx=st.nx
 | 0=>⟨rfl,rfl⟩
 | n+1=>by
  have:=zcj5 ps vs st f n
  simp only [SL]
  split
  ·split
   ·exact this
   ·exact this
  ·exact this
theorem zaG1 (st:St) (d:Option Nat) (v:A) (t:Nat):(st.app d v []).slot t=if d=some t then v else st.slot t:=by
 rw [zcq5]
 cases d with
 | none=>simp [setF]
 | some d =>
  by_cases h:t=d
  ·subst h; simp [setF]
  ·simp [setF,h,Ne.symm h,show ¬ d=t from fun e=>h e.symm]
theorem zdb0 {ps:List POp} {vs:Nat→A} {st:St} {f:Nat→Bool} {j:Nat} {p:POp} (hp:ps[j]? = some p) (hf:f j=false) (f':Nat→Bool) (hj:f' j=true) (hf':∀ i,i≠j→f' i=f i)
  (hc:∀ i q,j < i→ps[i]? = some q→f i=true→conf p q=false):∀ n t,(SL ps vs st f' n).slot t=if j < n∧p.dst=some t then vs j else (SL ps vs st f n).slot t
 | 0,t=>by simp [SL]
 | n+1,t=>by
  have ih:=zdb0 (vs:=vs) (st:=st) hp hf f' hj hf' hc n
  by_cases hn:n=j
  ·subst hn
   simp only [SL,hp,hj,hf,cE,bV,cD,zaG1]
   by_cases hd:p.dst=some t
   ·simp [hd]
   ·simp only [hd,cD,and_false]
    have:=ih t
    simpa [hd] using this
  ·have hlt:j < n+1 ↔ j < n:=by omega
   simp only [SL,hf' n hn,hlt]
   cases hq:ps[n]? with
   | none=>simpa using ih t
   | some q =>
    simp only []
    split
    ·rename_i hfn
     rw [zaG1,zaG1,ih t]
     by_cases hd:q.dst=some t
     ·simp only [hd,cE]
      by_cases hjn:j < n
      ·have:=hc n q hjn hq hfn
       unfold conf at this
       by_cases hpd:p.dst=some t
       ·simp [hpd,hd] at this
       ·simp [hpd]
      ·simp [hjn]
     ·simp [hd]
    ·exact ih t
theorem zcJ5 {ps:List POp} {vs:Nat→A} {st:St} {f:Nat→Bool} {j t:Nat} (h1:∀ i q,i < j→ps[i]? = some q→q.dst=some t→f i=true) (h2:∀ i q,j≤i→ps[i]? = some q→q.dst=some t→f i=false) :
  ∀ n,(SL ps vs st f n).slot t=(SL ps vs st (fun _=>true) (min n j)).slot t
 | 0=>by simp [SL]
 | n+1=>by
  have ih:=zcJ5 (vs:=vs) (st:=st) h1 h2 n
  by_cases hn:n < j
  ·rw [show min (n+1) j=n+1 by omega]
   rw [show min n j=n by omega] at ih
   simp only [SL]
   cases hq:ps[n]? with
   | none=>exact ih
   | some q =>
    simp only [cE]
    by_cases hd:q.dst=some t
    ·rw [h1 n q hn hq hd]; simp [zaG1,hd]
    ·rw [zaG1,bW hd]
     split
     ·rw [zaG1,bW hd]; exact ih
     ·exact ih
  ·rw [show min (n+1) j=j by omega]
   rw [show min n j=j by omega] at ih
   simp only [SL]
   cases hq:ps[n]? with
   | none=>exact ih
   | some q =>
    simp only []
    by_cases hd:q.dst=some t
    ·rw [h2 n q (by omega) hq hd]; simpa using ih
    ·split
     ·rw [zaG1,bW hd]; exact ih
     ·exact ih
theorem zbP1 {K:St→Prop}:∀ (ps:List POp) (st:St),zbc2 C ps st K→∃ vs:Nat→A,K (SL ps vs st (fun _=>true) ps.length) ∧
  ∀ j p,ps[j]? = some p→aop C p (SL ps vs st (fun _=>true) j) (fun s=>s=(SL ps vs st (fun _=>true) j).app p.dst (vs j) [])
 | [],st,h=>⟨fun _=>.any,h,fun j p hp=>by simp at hp⟩
 | p :: ps,st,h=>by
  obtain ⟨v,mw,⟨⟨h1,h2⟩,h3⟩,h4⟩:=zdr1 h
  have e:st.app p.dst v mw=st.app p.dst v []:=by
   simp only [St.app,St.mk.injEq] at h1 h2 ⊢
   exact ⟨trivial,h1,h2⟩
  rw [e] at h3 h4
  obtain ⟨vs,h5,h6⟩:=zbP1 ps _ h3
  have sh:∀ n,SL (p :: ps) (fun i=>match i with|0=>v|i+1=>vs i) st (fun _=>true) (n+1)=SL ps vs (st.app p.dst v []) (fun _=>true) n:=by
   intro n
   induction n with
   | zero=>simp [SL]
   | succ n ih=>rw [SL,ih]; simp only [List.getElem?_cons_succ]; rfl
  refine ⟨fun i=>match i with|0=>v|i+1=>vs i,?_,fun j q hq=>?_⟩
  ·rw [List.length_cons,sh]; exact h5
  ·cases j with
   | zero=>simp at hq; subst hq; exact h4
   | succ j=>rw [sh]; exact h6 j q (by simpa using hq)
theorem zaU2 {D:Nat→Prop}:∀ (es acc:List (List Nat)),(∀ j e,es[j]? = some e→D (acc.length+j)→∀ i ∈ e,D i)→(∀ j,D j→∀ i ∈ acc.getD j [],D i) →
  ∀ j,D j→∀ i ∈ (ancs acc es).getD j [],D i
 | [],acc,_,h=>h
 | e :: es,acc,he,h=>by
  unfold ancs
  refine zaU2 es _ (fun j e' hj hD=>he (j+1) e' (by simpa using hj) (by rw [cA] at hD; simp only [List.length_cons,List.length_nil] at hD; rwa [show acc.length+(j+1)=acc.length+(0+1)+j by omega])) ?_
  intro j hD i hi
  by_cases hj:j < acc.length
  ·refine h j hD i ?_
   rw [bZ,dM hj] at hi
   rwa [bZ]
  ·by_cases hj2:j=acc.length
   ·subst hj2
    have he0:=he 0 e rfl (by simpa using hD)
    rw [bZ,fE (dC _)] at hi
    simp only [gT,List.getElem?_cons_zero,Option.getD_some,cU,eZ] at hi
    rcases hi with hi|⟨k,hk,hi⟩
    ·exact he0 i hi
    ·exact h k (he0 k hk) i hi
   ·rw [bZ,fU (by simp; omega)] at hi
    simp at hi
theorem zaQ5 {ps:List POp} {an:List (List Nat)} (h:zbA1 ps an=true) {i j:Nat} {p q:POp} (hij:i < j) (hp:ps[i]? = some p) (hq:ps[j]? = some q) (hc:conf p q=true):i ∈ an.getD j []:=by
 unfold zbA1 at h
 have h1:=eO.1 h j (eR.2 (cH.1 hq).1)
 have h2:=eO.1 h1 i (eR.2 hij)
 simp only [hp,hq,hc,cL,dF] at h2
 simpa using h2
theorem zbg3:∀ (os:List Oper) (n:Nat),POp.sortOk os n=true→∀ j o,os[j]? = some o→∀ i ∈ zH3 o,i < n+j
 | [],_,_,j,o,h=>by simp at h
 | x :: os,n,h,j,o,ho=>by
  simp only [POp.sortOk,bX] at h
  cases j with
  | zero =>
   simp at ho; subst ho
   intro i hi
   simp only [zH3,cR,gY] at hi
   obtain ⟨e,⟨he,hb⟩,rfl⟩:=hi
   have:=Array.all_eq_true_iff_forall_mem.1 h.1 e (by simpa using he)
   simpa [hb] using this
  | succ j =>
   intro i hi
   have:=zbg3 os (n+1) h.2 j o (by simpa using ho) i hi
   omega
def left (f:Nat→Bool):Nat→Nat
 | 0=>0
 | n+1=>left f n+if f n then 0 else 1
theorem zbP2 {f f':Nat→Bool} {j:Nat} (hj:f j=false) (hj':f' j=true) (h:∀ i,i≠j→f' i=f i):∀ n,left f n=left f' n+if j < n then 1 else 0
 | 0=>rfl
 | n+1=>by
  have ih:=zbP2 hj hj' h n
  simp only [left]
  by_cases hn:n=j
  ·subst hn; simp [hj,hj'] ; simp at ih; omega
  ·rw [h n hn,ih]
   have:j < n+1 ↔ j < n:=by omega
   simp only [this]; omega
theorem zbA4 {f:Nat→Bool}:∀ n,left f n=0→∀ i,i < n→f i=true
 | n+1,h,i,hi=>by
  simp only [left] at h
  by_cases hn:i=n
  ·subst hn
   cases hf:f i with
   | true=>rfl
   | false=>simp [hf] at h
  ·exact zbA4 n (by omega) i (by omega)
theorem zaY7 {p q:POp} {t:Nat} (h:p.dst=some t) (hq:t ∈ q.rds∨q.dst=some t):conf p q=true∧(t ∈ q.rds→conf q p=true):=by
 unfold conf
 rw [h]
 refine ⟨?_,fun hr=>?_⟩
 ·rcases hq with hq|hq <;> simp [hq]
 ·simp [hr]
end
section
variable {C:Cx} {E:Env}
theorem Sat.drawn {s:S} {a:Act} {w:World} {n:Nat} (h:Sat E s a w) (hn:w.drawn≤n):Sat E s a { w with drawn:=n }:=by
  obtain ⟨W,μ,hs⟩:=h
  have hk:Keeps (fun _=>False) w { w with drawn:=n }:=⟨rfl,rfl,rfl,hn,dC _,fun _ _ _=>rfl⟩
  exact ⟨W,μ,hs.step (Step.quiet hk hs.mem hs.inj hs.wlt) (d:=none) (v:=undef) (av:=.any) (fun x hx=>by cases hx) trivial⟩
theorem ROk.at {ops:Array Oper} {N:Nat}:∀ {ps:List POp} {n j:Nat} {o:Oper},ROk C N ops n ps→ops[n+j]? = some o→∃ p,ps[j]? = some p∧POk C N ops o p
  | [],n,j,o,h,ho=>by
    have h:n=ops.size:=h
    have:=(dK.1 ho).1
    omega
  | p :: ps,n,0,o,h,ho=>by
    obtain ⟨⟨o',ho',hp⟩,_⟩:=h
    rw [Nat.add_zero,ho'] at ho; cases ho
    exact ⟨p,rfl,hp⟩
  | p :: ps,n,j+1,o,h,ho=>by
    obtain ⟨q,hq,hp⟩:=ROk.at (j:=j) h.2 (by rw [← ho]; congr 1; omega)
    exact ⟨q,by simpa using hq,hp⟩
theorem zbP3 {ps:List POp} {vs:Nat→A} {st:St} {f f':Nat→Bool}:∀ n,(∀ i,i < n→f i=f' i)→SL ps vs st f n=SL ps vs st f' n
  | 0,_=>rfl
  | n+1,h=>by
    have ih:=zbP3 (ps:=ps) (vs:=vs) (st:=st) n fun i hi=>h i (by omega)
    simp only [SL,ih,h n (by omega)]
theorem zcO3 {st st2:St} (hs:∀ t,st2.slot t=st.slot t) (hm:st2.mem=st.mem) (hn:st2.nx=st.nx):st2.toS=st.toS:=by
  unfold St.toS
  rw [zcJ4 hm hn,show st2.slot=st.slot from funext hs]
theorem zcO4 {os:Array Oper} {ps:List POp} {st:St} {vs:Nat→A} {K:St→Prop} {Q:Exit→Act→World→Prop} (hG:E.G=C.G) (hr:ROk C E.N os 0 ps) (hso:POp.sortOk os.toList 0=true)
    (hco:zbA1 ps (ancs [] (os.toList.map zH3))=true) (hK:K (SL ps vs st (fun _=>true) ps.length))
    (hv:∀ j p,ps[j]? = some p→aop C p (SL ps vs st (fun _=>true) j) (fun s=>s=(SL ps vs st (fun _=>true) j).app p.dst (vs j) []))
    (hQ:∀ st' a' w',K st'→Sat E st'.toS a' w'→Q .normal a' w') :
    ∀ (fuel:Nat) (listed:Array Bool) (a:Act) (w:World),listed.size=os.size→Sat E (SL ps vs st (fun i=>listed.getD i false) ps.length).toS a w →
      (∀ j o,os[j]? = some o→listed.getD j false=true→∀ i ∈ zH3 o,listed.getD i false=true)→left (fun i=>listed.getD i false) os.size≤fuel →
      wpAny C.P .any os Q fuel listed a w:=by
  have hlen:ps.length=os.size:=by have:=hr.size; omega
  have hdone:∀ (listed:Array Bool) (a:Act) (w:World),Sat E (SL ps vs st (fun i=>listed.getD i false) ps.length).toS a w→(∀ i,i < os.size→listed.getD i false=true)→Q .normal a w:=by
    intro listed a w hs hall
    refine hQ _ a w hK ?_
    rw [zbP3 (f:=fun _=>true) (f':=fun i=>listed.getD i false) ps.length fun i hi=>(hall i (by omega)).symm]
    exact hs
  have hready:∀ (listed:Array Bool),listed.size=os.size→Region.ready .any os listed=[]→∀ i,i < os.size→listed.getD i false=true:=by
    intro listed hsz hr0 i
    induction i using Nat.strongRecOn with
    | _ i ih =>
      intro hi
      cases hl:listed.getD i false with
      | true=>rfl
      | false =>
        have:i ∈ Region.ready .any os listed:=by
          rw [mem_ready]
          refine ⟨?_,os[i],by simp [hi],fun e he hb=>?_⟩
          · have h1:i < listed.size:=by omega
            simp only [Array.getD,h1,jM] at hl ⊢; exact hl
          · have h2:e.on ∈ zH3 os[i]:=by
              simp only [zH3,cR,gY]
              exact ⟨e,⟨by simpa using he,hb⟩,rfl⟩
            have h3:=zbg3 os.toList 0 hso i os[i] (by simp [hi]) e.on h2
            exact ih e.on (by omega) (by omega)
        rw [hr0] at this; cases this
  intro fuel
  induction fuel with
  | zero =>
    intro listed a w hsz hs hcl hle
    have hall:=zbA4 (f:=fun i=>listed.getD i false) os.size (by omega)
    refine ⟨?_,hdone listed a w hs hall⟩
    cases hrd:Region.ready .any os listed with
    | nil=>rfl
    | cons i rs =>
      have:i ∈ Region.ready .any os listed:=by rw [hrd]; simp
      rw [mem_ready] at this
      obtain ⟨h1,o,ho,_⟩:=this
      have hi:=(dK.1 ho).1
      have:=hall i hi
      have h2:i < listed.size:=by omega
      simp only [Array.getD,h2,jM] at h1 this
      rw [this] at h1; cases h1
  | succ fuel ih =>
    intro listed a w hsz hs hcl hle
    refine ⟨fun hr0=>hdone listed a w hs (hready listed hsz hr0),fun i hi=>?_⟩
    rw [mem_ready] at hi
    obtain ⟨hl,o,ho,hed⟩:=hi
    have hlt:=(dK.1 ho).1
    have hlt2:i < listed.size:=by omega
    have hl:listed.getD i false=false:=by
      simp only [Array.getD,hlt2,jM] at hl ⊢; exact hl
    obtain ⟨p,hp,hpo⟩:=hr.at (j:=i) (by rw [dU]; exact ho)
    have hedge:∀ k ∈ zH3 o,listed.getD k false=true:=by
      intro k hk
      simp only [zH3,cR,gY] at hk
      obtain ⟨e,⟨he,hb⟩,rfl⟩:=hk
      exact hed e (by simpa using he) hb
    have hset:(listed.setIfInBounds i true).getD i false=true:=by simp [Array.getD,hlt2]
    have hsetne:∀ k,k≠i→(listed.setIfInBounds i true).getD k false=listed.getD k false:=fun k hk=>getD_set_ne false (Ne.symm hk)
    have hcl':∀ j o,os[j]? = some o→(listed.setIfInBounds i true).getD j false=true→∀ k ∈ zH3 o,(listed.setIfInBounds i true).getD k false=true:=by
      intro j o' ho' hj k hk
      by_cases hji:j=i
      · subst hji
        rw [ho] at ho'; cases ho'
        exact getD_set_true (hedge k hk)
      · rw [hsetne j hji] at hj
        exact getD_set_true (hcl j o' ho' hj k hk)
    have hanc:∀ j,(listed.setIfInBounds i true).getD j false=true→∀ k ∈ (ancs [] (os.toList.map zH3)).getD j [],(listed.setIfInBounds i true).getD k false=true :=
      zaU2 (D:=fun j=>(listed.setIfInBounds i true).getD j false=true) _ [] (fun j e he hD=>by
        simp only [cO,cI] at he
        obtain ⟨o',ho',rfl⟩:=he
        exact hcl' j o' (by simpa using ho') (by simpa using hD)) (fun j _ k hk=>by simp at hk)
    have hanc0:∀ j,listed.getD j false=true→∀ k ∈ (ancs [] (os.toList.map zH3)).getD j [],listed.getD k false=true :=
      zaU2 (D:=fun j=>listed.getD j false=true) _ [] (fun j e he hD=>by
        simp only [cO,cI] at he
        obtain ⟨o',ho',rfl⟩:=he
        exact hcl j o' (by simpa using ho') (by simpa using hD)) (fun j _ k hk=>by simp at hk)
    have hbef:∀ k q,k < i→ps[k]? = some q→conf q p=true→listed.getD k false=true:=by
      intro k q hk hq hc
      have:=hanc i hset k (zaQ5 hco hk hq hp hc)
      rwa [hsetne k (by omega)] at this
    have haft:∀ k q,i < k→ps[k]? = some q→conf p q=true→listed.getD k false=false:=by
      intro k q hk hq hc
      cases hlk:listed.getD k false with
      | false=>rfl
      | true =>
        have:=hanc0 k hlk i (zaQ5 hco hk hp hq hc)
        rw [hl] at this; cases this
    have hmem:=zcj5 ps vs st (fun k=>listed.getD k false) ps.length
    have hmem2:=zcj5 ps vs st (fun _=>true) i
    have hil:i < ps.length:=(cH.1 hp).1
    have haop:aop C p (SL ps vs st (fun k=>listed.getD k false) ps.length) (fun s=>s=(SL ps vs st (fun k=>listed.getD k false) ps.length).app p.dst (vs i) []):=by
      refine zcO2 (st:=SL ps vs st (fun _=>true) i) (by rw [hmem.1,hmem2.1]) (by rw [hmem.2,hmem2.2]) (fun t ht=>?_) (hv i p hp)
      rw [zcJ5 (j:=i) (t:=t) (fun k q hk hq hd=>hbef k q hk hq (zaY7 hd (.inl ht)).1) (fun k q hk hq hd=>?_) ps.length,iP (iJ hil)]
      by_cases hki:k=i
      · subst hki; exact hl
      · exact haft k q (by omega) hq ((zaY7 hd (.inl ht)).2 ht)
    obtain ⟨W,μ,hs⟩:=hs
    have key:=zcd6 hs hG hpo haop (Q:=Q) (k:=wpAny C.P .any os Q fuel (listed.setIfInBounds i true)) (fun st' a' w' hst hs'=>by
      subst hst
      refine ih _ a' w' (by simpa using hsz) ?_ hcl' ?_
      · have e:(SL ps vs st (fun k=>(listed.setIfInBounds i true).getD k false) ps.length).toS=((SL ps vs st (fun k=>listed.getD k false) ps.length).app p.dst (vs i) []).toS:=by
          have hm3:=zcj5 ps vs st (fun k=>(listed.setIfInBounds i true).getD k false) ps.length
          refine zcO3 (fun t=>?_) ?_ ?_
          · rw [zdb0 (f:=fun k=>listed.getD k false) hp hl (fun k=>(listed.setIfInBounds i true).getD k false) hset hsetne (fun k q hk hq hfk=>?_),zaG1]
            · simp only [hil,gH]
            · cases hc:conf p q with
              | false=>rfl
              | true=>have:=haft k q hk hq hc; exact absurd (this.symm.trans hfk) (by simp)
          · rw [hm3.1]; exact hmem.1.symm
          · rw [hm3.2]; exact hmem.2.symm
        rw [e]; exact hs'
      · have:=zbP2 (f:=fun k=>listed.getD k false) (f':=fun k=>(listed.setIfInBounds i true).getD k false) (j:=i) hl hset hsetne os.size
        rw [bY hlt] at this
        omega)
    simp only [wpOp,ho]
    split at key
    · rename_i hw; rw [bY hw]; exact .inl key
    · rename_i hw; rw [bW hw]; exact key
theorem zdr2 {Q:Exit→St→Prop} {st:St} {dr:List Nat} {ops:List POp} (hm:C.P.follows .mixedOrders=true) (hG:E.G=C.G) (h:zbc2 C ops st fun s=>Q .normal (s.drop dr)):AW C E (.regd dr ops) Q st:=fun code hc a w hs=>by
  cases code with
  | region id os d =>
   cases d with
   | false=>simp [chkC] at hc
   | true =>
    simp only [chkC,bX,zcJ0] at hc
    obtain ⟨hc1,hc2,hc3⟩:=hc
    have hr:ROk C E.N os 0 ops:=by
      obtain ⟨P,G⟩:=C
      exact zbl2 os.toList ops 0 hc1 (by simp) (by simp)
    obtain ⟨vs,hK,hv⟩:=zbP1 ops st h
    refine wp_region_any hm ?_
    refine zcO4 (st:=st) (vs:=vs) hG hr hc2 hc3 hK hv (fun st' a' w' hQ hs'=>⟨_,hQ,hs'.drop⟩) os.size _ a _ (by simp) ?_ (fun j o ho hj=>?_) ?_
    · have e:SL ops vs st (fun i=>(Array.replicate os.size false).getD i false) ops.length=SL ops vs st (fun _=>false) ops.length:=zbP3 _ fun i _=>by simp [Array.getD]
      have e2:∀ n,SL ops vs st (fun _=>false) n=st:=fun n=>by
        induction n with
        | zero=>rfl
        | succ n ih=>simp only [SL,ih,bV,cD]; split <;> rfl
      rw [e,e2]
      exact hs.drawn (jS _)
    · simp [Array.getD] at hj
    · have:∀ n,left (fun i=>(Array.replicate os.size false).getD i false) n≤n:=fun n=>by
        induction n with
        | zero=>exact dC _
        | succ n ih=>simp only [left]; split <;> omega
      exact this _
  | _=>simp [chkC] at hc
end
theorem zaw1 {a b:ByteArray}:a.toList=b.toList ↔ a=b:=by
 constructor
 ·intro h
  rw [ByteArray.toList_eq,ByteArray.toList_eq] at h
  cases a; cases b
  simp only [ByteArray.mk.injEq]
  exact Array.toList_inj.1 (by simpa using h)
 ·intro h; rw [h]
def eI (k:IntKind) (x:Int):List A:=[A.int k x]
def eB (x:Bool):List A:=[A.bool x]
def eS (x:ByteArray):List A:=[A.str x]
def eL {α:Type} (f:α→List A) (l:List α):List A:=[A.sl (l.map f)]
@[go_sem] theorem zdG9 (a:A):sub [a] 0 1=[a]:=rfl
@[go_sem] theorem zdH0 (a b:A):upd [a] 0 [b]=[b]:=rfl
@[go_sem] theorem zdE8 {α β:Type} (f:α→β) (l:List α) (n:Nat):(l.map f).take n=(l.take n).map f:=List.map_take.symm
@[go_sem] theorem zdE9 {α β:Type} (f:α→β) (l:List α) (n:Nat):(l.map f).drop n=(l.drop n).map f:=List.map_drop.symm
@[go_sem] theorem zdy2 {α β:Type} (f:α→β) (l m:List α):l.map f++m.map f=(l++m).map f:=fG.symm
attribute [go_sem] dV
@[go_sem] theorem zdm5 (c:List A) (cs:List (List A)):zas1 (c :: cs) ↔ zp5 c=true∧zas1 cs:=by
 constructor
 ·intro h
  refine ⟨?_,fun d hd=>h d (.tail _ hd)⟩
  have:=h c (.head _)
  clear h
  induction c with
  | nil=>rfl
  | cons a c ih=>simp only [zp5,bX]; exact ⟨this a (.head _),ih fun b hb=>this b (.tail _ hb)⟩
 ·rintro ⟨h1,h2⟩ d hd
  rcases cJ.1 hd with rfl|hd
  ·exact zav9 h1
  ·exact h2 d hd
@[go_sem] theorem zdC5:maxLen=9223372036854775807:=rfl
@[go_sem] theorem eI.getD (k:IntKind) (l:List Int) (i:Nat):(l.map (eI k)).getD i [A.int k 0]=[A.int k (l.getD i 0)]:=by
 simp only [bZ,cO]; cases l[i]? <;> rfl
@[go_sem] theorem eI.snoc (k:IntKind) (l:List Int) (x:Int):l.map (eI k)++[[A.int k x]]=(l++[x]).map (eI k):=by simp [eI]
@[go_sem] theorem eI.set (k:IntKind) (l:List Int) (i:Nat) (x:Int):(l.map (eI k)).set i [A.int k x]=(l.set i x).map (eI k):=by simp [iY,eI]
@[go_sem] theorem eI.allLen (k:IntKind) (l:List Int):zR5 1 (l.map (eI k)):=by intro c hc; obtain ⟨x,_,rfl⟩:=cR.1 hc; rfl
@[go_sem] theorem eI.pureRows (k:IntKind) (l:List Int):zas1 (l.map (eI k)):=by intro c hc; obtain ⟨x,_,rfl⟩:=cR.1 hc; intro a ha; simp [eI] at ha; subst ha; rfl
@[go_sem] theorem eI.pureEs (k:IntKind) (l:List Int):pureEs (l.map (eI k))=true:=by induction l with
 | nil=>rfl
 | cons a l ih=>simpa [Ab.pureEs,zp5,A.pure1,eI] using ih
@[go_sem] theorem eB.getD (l:List Bool) (i:Nat):(l.map eB).getD i [A.bool false]=[A.bool (l.getD i false)]:=by
 simp only [bZ,cO]; cases l[i]? <;> rfl
@[go_sem] theorem eB.snoc (l:List Bool) (x:Bool):l.map eB++[[A.bool x]]=(l++[x]).map eB:=by simp [eB]
@[go_sem] theorem eB.set (l:List Bool) (i:Nat) (x:Bool):(l.map eB).set i [A.bool x]=(l.set i x).map eB:=by simp [iY,eB]
@[go_sem] theorem eB.rep (n:Nat) (x:Bool):List.replicate n [A.bool x]=(List.replicate n x).map eB:=by simp [eB]
@[go_sem] theorem eB.pureRows (l:List Bool):zas1 (l.map eB):=by intro c hc; obtain ⟨x,_,rfl⟩:=cR.1 hc; intro a ha; simp [eB] at ha; subst ha; rfl
@[go_sem] theorem eB.pureEs (l:List Bool):pureEs (l.map eB)=true:=by induction l with
 | nil=>rfl
 | cons a l ih=>simpa [Ab.pureEs,zp5,A.pure1,eB] using ih
@[go_sem] theorem eS.getD (l:List ByteArray) (i:Nat):(l.map eS).getD i [A.str ⟨#[]⟩]=[A.str (l.getD i ⟨#[]⟩)]:=by
 simp only [bZ,cO]; cases l[i]? <;> rfl
@[go_sem] theorem eS.snoc (l:List ByteArray) (x:ByteArray):l.map eS++[[A.str x]]=(l++[x]).map eS:=by simp [eS]
@[go_sem] theorem eS.set (l:List ByteArray) (i:Nat) (x:ByteArray):(l.map eS).set i [A.str x]=(l.set i x).map eS:=by simp [iY,eS]
@[go_sem] theorem eS.pureRows (l:List ByteArray):zas1 (l.map eS):=by intro c hc; obtain ⟨x,_,rfl⟩:=cR.1 hc; intro a ha; simp [eS] at ha; subst ha; rfl
@[go_sem] theorem eS.pureEs (l:List ByteArray):pureEs (l.map eS)=true:=by induction l with
 | nil=>rfl
 | cons a l ih=>simpa [Ab.pureEs,zp5,A.pure1,eS] using ih
@[go_sem] theorem eL.getD {α:Type} (f:α→List A) (l:List (List α)) (i:Nat):(l.map (eL f)).getD i [A.sl (([]:List α).map f)]=[A.sl ((l.getD i []).map f)]:=by
 simp only [bZ,cO]; cases l[i]? <;> rfl
@[go_sem] theorem eL.getD0 {α:Type} (f:α→List A) (l:List (List α)) (i:Nat):(l.map (eL f)).getD i [A.sl []]=[A.sl ((l.getD i []).map f)]:=eL.getD f l i
@[ext] structure Arr (α:Type) (n:Nat) where
 l:List α
 h:l.length=n
instance {α:Type} [DecidableEq α] {n:Nat}:DecidableEq (Arr α n):=fun a b=>decidable_of_iff (a.l=b.l) (by rw [Arr.ext_iff])
def Arr.get {α:Type} {n:Nat} (a:Arr α n) (i:Nat) (z:α):α:=a.l.getD (zN5 i n) z
def Arr.put {α:Type} {n:Nat} (a:Arr α n) (i:Nat) (x:α):Arr α n:=⟨a.l.set (zN5 i n) x,by simp [a.h]⟩
def Arr.rep {α:Type} (n:Nat) (x:α):Arr α n:=⟨List.replicate n x,by simp⟩
def Arr.enc {α:Type} {n:Nat} (f:α→List A) (a:Arr α n):List A:=(a.l.map f).flatten
theorem zcr4 {α:Type} (f:α→List A) (sz:Nat) (hf:∀ x,(f x).length=sz):∀ l:List α,(l.map f).flatten.length=l.length * sz
 | []=>by simp
 | a :: l=>by simp only [eD,List.flatten_cons,cA,hf,zcr4 f sz hf l,List.length_cons]; rw [dO]; omega
theorem zcJ6 {α:Type} (f:α→List A) (sz:Nat) (hf:∀ x,(f x).length=sz) (z:α):∀ (l:List α) (i:Nat),i < l.length→sub (l.map f).flatten (i * sz) sz=f (l.getD i z)
 | [],i,h=>by simp at h
 | a :: l,0,_=>by simp [sub,hf a]
 | a :: l,i+1,h=>by
  have:=zcJ6 f sz hf z l i (by simpa using h)
  simp only [sub,eD,List.flatten_cons,gI] at this ⊢
  rw [← this,jG,gJ (by rw [hf,dO]; omega),hf,List.nil_append]
  congr 2
  rw [dO]; omega
theorem zcr5 {α:Type} (f:α→List A) (sz:Nat) (hf:∀ x,(f x).length=sz) (x:α):∀ (l:List α) (i:Nat),i < l.length→upd (l.map f).flatten (i * sz) (f x)=((l.set i x).map f).flatten
 | [],i,h=>by simp at h
 | a :: l,0,_=>by simp [upd,hf]
 | a :: l,i+1,h=>by
  have:=zcr5 f sz hf x l i (by simpa using h)
  simp only [upd,eD,List.flatten_cons,List.set_cons_succ] at this ⊢
  rw [← this]
  have e:(i+1) * sz=(f a).length+i * sz:=by rw [hf,dO]; omega
  rw [e,List.take_length_add_append,fK,List.drop_length_add_append]
  simp [cG]
@[go_sem] theorem Arr.enc_len {α:Type} {n:Nat} (f:α→List A) (a:Arr α n) (sz:Nat) (hf:∀ x,(f x).length=sz):(Arr.enc f a).length=n * sz:=by
 rw [Arr.enc,zcr4 f sz hf,a.h]
theorem zaL0 {i n:Nat} (h:0 < n):zN5 i n < n:=by unfold zN5; split <;> omega
theorem zao7 {i n:Nat} (h:i < n):zN5 i n=i:=bY h
theorem zcB1 {α:Type} {n sz:Nat} (f:α→List A) (hf:∀ x,(f x).length=sz) (z:α) (a:Arr α (n+1)) (i:Nat):sub (Arr.enc f a) (zN5 i (n+1) * sz) sz=f (a.get i z):=zcJ6 f sz hf z a.l _ (by rw [a.h]; exact zaL0 (by omega))
theorem zcJ7 {α:Type} {n sz:Nat} (f:α→List A) (hf:∀ x,(f x).length=sz) (a:Arr α (n+1)) (i:Nat) (x:α):upd (Arr.enc f a) (zN5 i (n+1) * sz) (f x)=Arr.enc f (a.put i x):=zcr5 f sz hf x a.l _ (by rw [a.h]; exact zaL0 (by omega))
attribute [go_sem] zao7
@[go_sem] theorem zdC6 (i n:Nat):(zN5 i (n+1)≤n)=True:=by
 have:=zaL0 (i:=i) (n:=n+1) (by omega)
 exact eq_true (by omega)
section
variable {n:Nat}
@[go_sem] theorem eI.alen (k:IntKind) (a:Arr Int n):(Arr.enc (eI k) a).length=n:=by rw [Arr.enc_len _ _ 1 (fun _=>rfl),gA]
@[go_sem] theorem eB.alen (a:Arr Bool n):(Arr.enc eB a).length=n:=by rw [Arr.enc_len _ _ 1 (fun _=>rfl),gA]
@[go_sem] theorem eI.aat (k:IntKind) (a:Arr Int (n+1)) (i:Nat):sub (Arr.enc (eI k) a) (zN5 i (n+1)) 1=[A.int k (a.get i 0)]:=by
 have:=zcB1 (eI k) (sz:=1) (fun _=>rfl) 0 a i; rwa [gA] at this
@[go_sem] theorem eI.aput (k:IntKind) (a:Arr Int (n+1)) (i:Nat) (x:Int):upd (Arr.enc (eI k) a) (zN5 i (n+1)) [A.int k x]=Arr.enc (eI k) (a.put i x):=by
 have:=zcJ7 (eI k) (sz:=1) (fun _=>rfl) a i x; rwa [gA] at this
@[go_sem] theorem eI.aatc (k:IntKind) (a:Arr Int (n+1)) (i:Nat) (h:i < n+1):sub (Arr.enc (eI k) a) i 1=[A.int k (a.get i 0)]:=by
 have:=eI.aat k a i; rwa [zao7 h] at this
@[go_sem] theorem eI.aputc (k:IntKind) (a:Arr Int (n+1)) (i:Nat) (x:Int) (h:i < n+1):upd (Arr.enc (eI k) a) i [A.int k x]=Arr.enc (eI k) (a.put i x):=by
 have:=eI.aput k a i x; rwa [zao7 h] at this
@[go_sem] theorem eB.aat (a:Arr Bool (n+1)) (i:Nat):sub (Arr.enc eB a) (zN5 i (n+1)) 1=[A.bool (a.get i false)]:=by
 have:=zcB1 eB (sz:=1) (fun _=>rfl) false a i; rwa [gA] at this
@[go_sem] theorem eB.aat2 {m:Nat} (a:Arr (Arr Bool (m+1)) (n+1)) (i j:Nat):sub (Arr.enc (Arr.enc eB) a) (zN5 i (n+1) * (m+1)+zN5 j (m+1)) 1=[A.bool ((a.get i (Arr.rep (m+1) false)).get j false)]:=by
 have h1:=zcB1 (sz:=m+1) (Arr.enc eB) (fun x=>eB.alen x) (Arr.rep (m+1) false) a i
 have h2:=eB.aat (a.get i (Arr.rep (m+1) false)) j
 have hj:=zaL0 (i:=j) (n:=m+1) (by omega)
 rw [← h2,← h1]
 simp only [sub,List.drop_take,jT,eQ]
 congr 1; omega
@[go_sem] theorem zdy3 (i j n m k:Nat) (h:(n+1) * (m+1)≤k+1):(zN5 i (n+1) * (m+1)+zN5 j (m+1)≤k)=True:=by
 have h1:=zaL0 (i:=i) (n:=n+1) (by omega)
 have h2:=zaL0 (i:=j) (n:=m+1) (by omega)
 have h3:(zN5 i (n+1)+1) * (m+1)≤(n+1) * (m+1):=dE _ h1
 rw [dO] at h3
 exact eq_true (by omega)
@[go_sem] theorem eB.aput (a:Arr Bool (n+1)) (i:Nat) (x:Bool):upd (Arr.enc eB a) (zN5 i (n+1)) [A.bool x]=Arr.enc eB (a.put i x):=by
 have:=zcJ7 eB (sz:=1) (fun _=>rfl) a i x; rwa [gA] at this
@[go_sem] theorem eB.aputc (a:Arr Bool (n+1)) (i:Nat) (x:Bool) (h:i < n+1):upd (Arr.enc eB a) i [A.bool x]=Arr.enc eB (a.put i x):=by
 have:=eB.aput a i x; rwa [zao7 h] at this
@[go_sem] theorem eB.aall (a b:Arr Bool n):upd (Arr.enc eB a) 0 (Arr.enc eB b)=Arr.enc eB b:=by
 simp [upd,eB.alen]
@[go_sem] theorem eI.asub (k:IntKind) (a:Arr Int n):sub (Arr.enc (eI k) a) 0 n=Arr.enc (eI k) a:=by
 rw [sub,fP,dV (by rw [eI.alen]; exact dC _)]
@[go_sem] theorem eB.asub (a:Arr Bool n):sub (Arr.enc eB a) 0 n=Arr.enc eB a:=by
 rw [sub,fP,dV (by rw [eB.alen]; exact dC _)]
theorem zbg4 {α:Type} (f:α→List A) (hf:∀ x,zp5 (f x)=true):∀ l:List α,zp5 (l.map f).flatten=true
 | []=>rfl
 | a :: l=>by
  have h1:=hf a
  have h2:=zbg4 f hf l
  have:∀ x y:List A,zp5 x=true→zp5 y=true→zp5 (x++y)=true:=fun x y hx hy=>by
   induction x with
   | nil=>exact hy
   | cons c x ih=>simp only [zp5,bX,List.cons_append] at hx ⊢; exact ⟨hx.1,ih hx.2⟩
  simpa using this _ _ h1 h2
@[go_sem] theorem eI.apure (k:IntKind) (a:Arr Int n):zp5 (Arr.enc (eI k) a)=true:=zbg4 _ (fun _=>rfl) _
@[go_sem] theorem eB.apure (a:Arr Bool n):zp5 (Arr.enc eB a)=true:=zbg4 _ (fun _=>rfl) _
end
class En (T:Type) where
 sz:Nat
 e:T→List A
 z:T
attribute [go_sem] En.sz En.e En.z
@[go_sem] abbrev bx {T:Type} [En T] (v:T):Row:=⟨false,En.sz T,En.e (En.z:T),[En.e v]⟩
@[go_sem] abbrev sx {T:Type} [En T] (v:List T):Row:=⟨false,En.sz T,En.e (En.z:T),v.map En.e⟩
@[go_sem] abbrev ga {T:Type} [En T] (v:T):A:=.agg (En.e v)
@[go_sem] abbrev la {T:Type} [En T] (v:List T):A:=.sl (v.map En.e)
section
variable {T:Type} {f:T→List A}
@[go_sem] theorem zdy4 {n:Nat} (h:∀ x,(f x).length=n) (l:List T):zR5 n (l.map f):=by intro c hc; obtain ⟨x,_,rfl⟩:=cR.1 hc; exact h x
@[go_sem] theorem zdr3 (h:∀ x,zp5 (f x)=true) (l:List T):zas1 (l.map f):=by intro c hc; obtain ⟨x,_,rfl⟩:=cR.1 hc; exact zav9 (h x)
@[go_sem] theorem zdy5 (h:∀ x,zp5 (f x)=true) (l:List T):pureEs (l.map f)=true:=by induction l with
 | nil=>rfl
 | cons a l ih=>simp [Ab.pureEs,h,ih]
@[go_sem] theorem zdF0 (l:List T) (i:Nat) (z:T):(l.map f).getD i (f z)=f (l.getD i z):=by
 simp only [bZ,cO]; cases l[i]? <;> rfl
@[go_sem] theorem zdF1 (l:List T) (x:T):l.map f++[f x]=(l++[x]).map f:=by simp
@[go_sem] theorem zdH1 (l:List T) (i:Nat) (x:T):(l.map f).set i (f x)=(l.set i x).map f:=by simp [iY]
end
@[ext] structure aH where
 name:ByteArray
 (kind aT home:Int)
 deriving DecidableEq
namespace aH
def zero:aH:=⟨⟨#[]⟩,0,0,0⟩
def enc (x:aH):List A:=[A.str x.name,A.int .i64 x.kind,A.int .i64 x.aT,A.int .i64 x.home]
@[go_sem] theorem len (x:aH):(enc x).length=4:=by simp [enc]
instance:En aH:=⟨4,enc,zero⟩
@[go_sem] theorem laws (x:aH) :
 zp5 (enc x)=true ∧
 zv2 (enc x)=true ∧
 zs0 [.s,.i .i64,.i .i64,.i .i64] (enc x)=true ∧
 sub (enc x) 0 4=enc x ∧
 (∀ y,upd (enc x) 0 (enc y)=enc y) ∧
 sub (enc x) 0 1=[A.str x.name] ∧
 sub (enc x) 1 1=[A.int .i64 x.kind] ∧
 sub (enc x) 2 1=[A.int .i64 x.aT] ∧
 sub (enc x) 3 1=[A.int .i64 x.home] ∧
 (∀ v,upd (enc x) 0 ([A.str v])=enc { x with name:=v }) ∧
 (∀ v,upd (enc x) 1 ([A.int .i64 v])=enc { x with kind:=v }) ∧
 (∀ v,upd (enc x) 2 ([A.int .i64 v])=enc { x with aT:=v }) ∧
 (∀ v,upd (enc x) 3 ([A.int .i64 v])=enc { x with home:=v }) ∧
 (∀ (c0 c1 c2 c3:A) (cs:List A),upd (c0 :: c1 :: c2 :: c3 :: cs) 0 (enc x)=A.str x.name :: A.int .i64 x.kind :: A.int .i64 x.aT :: A.int .i64 x.home :: cs) ∧
 (∀ (c0 c1 c2 c3:A),upd (enc x) 0 [c0,c1,c2,c3]=[c0,c1,c2,c3]):=by simp [sub,upd,zp5,A.pure1,zv2,A.scal1,zs0,LK.fits,eE,enc]
@[go_sem] theorem eq (x y:aH):eqA (enc x) (enc y)=decide (x=y):=by
 rw [dL]; simp [eqA,eq1,zaw1,fR,enc,aH.ext_iff]
end aH
@[ext] structure aJ where
 (site inc num:Int)
 deriving DecidableEq
namespace aJ
def zero:aJ:=⟨0,0,0⟩
def enc (x:aJ):List A:=[A.int .i64 x.site,A.int .i64 x.inc,A.int .i64 x.num]
@[go_sem] theorem len (x:aJ):(enc x).length=3:=by simp [enc]
instance:En aJ:=⟨3,enc,zero⟩
@[go_sem] theorem laws (x:aJ) :
 zp5 (enc x)=true ∧
 zv2 (enc x)=true ∧
 zs0 [.i .i64,.i .i64,.i .i64] (enc x)=true ∧
 sub (enc x) 0 3=enc x ∧
 (∀ y,upd (enc x) 0 (enc y)=enc y) ∧
 sub (enc x) 0 1=[A.int .i64 x.site] ∧
 sub (enc x) 1 1=[A.int .i64 x.inc] ∧
 sub (enc x) 2 1=[A.int .i64 x.num] ∧
 (∀ v,upd (enc x) 0 ([A.int .i64 v])=enc { x with site:=v }) ∧
 (∀ v,upd (enc x) 1 ([A.int .i64 v])=enc { x with inc:=v }) ∧
 (∀ v,upd (enc x) 2 ([A.int .i64 v])=enc { x with num:=v }) ∧
 (∀ (c0 c1 c2:A) (cs:List A),upd (c0 :: c1 :: c2 :: cs) 0 (enc x)=A.int .i64 x.site :: A.int .i64 x.inc :: A.int .i64 x.num :: cs) ∧
 (∀ (c0 c1 c2:A),upd (enc x) 0 [c0,c1,c2]=[c0,c1,c2]):=by simp [sub,upd,zp5,A.pure1,zv2,A.scal1,zs0,LK.fits,eE,enc]
@[go_sem] theorem eq (x y:aJ):eqA (enc x) (enc y)=decide (x=y):=by
 rw [dL]; simp [eqA,eq1,zaw1,fR,enc,aJ.ext_iff]
@[go_sem] theorem rep (n:Nat) (x:aJ):List.replicate n (enc x)=(List.replicate n x).map enc:=by simp
end aJ
@[ext] structure aC where
 (mode aT:Int)
 deriving DecidableEq
namespace aC
def zero:aC:=⟨0,0⟩
def enc (x:aC):List A:=[A.int .i64 x.mode,A.int .i64 x.aT]
@[go_sem] theorem len (x:aC):(enc x).length=2:=by simp [enc]
instance:En aC:=⟨2,enc,zero⟩
@[go_sem] theorem laws (x:aC) :
 zp5 (enc x)=true ∧
 zv2 (enc x)=true ∧
 zs0 [.i .i64,.i .i64] (enc x)=true ∧
 sub (enc x) 0 2=enc x ∧
 (∀ y,upd (enc x) 0 (enc y)=enc y) ∧
 sub (enc x) 0 1=[A.int .i64 x.mode] ∧
 sub (enc x) 1 1=[A.int .i64 x.aT] ∧
 (∀ v,upd (enc x) 0 ([A.int .i64 v])=enc { x with mode:=v }) ∧
 (∀ v,upd (enc x) 1 ([A.int .i64 v])=enc { x with aT:=v }) ∧
 (∀ (c0 c1:A) (cs:List A),upd (c0 :: c1 :: cs) 0 (enc x)=A.int .i64 x.mode :: A.int .i64 x.aT :: cs) ∧
 (∀ (c0 c1:A),upd (enc x) 0 [c0,c1]=[c0,c1]):=by simp [sub,upd,zp5,A.pure1,zv2,A.scal1,zs0,LK.fits,eE,enc]
@[go_sem] theorem eq (x y:aC):eqA (enc x) (enc y)=decide (x=y):=by
 rw [dL]; simp [eqA,eq1,zaw1,fR,enc,aC.ext_iff]
end aC
@[ext] structure aY where
 aP:aJ
 aK:aC
 deriving DecidableEq
namespace aY
def zero:aY:=⟨aJ.zero,aC.zero⟩
def enc (x:aY):List A:=aJ.enc x.aP++aC.enc x.aK
@[go_sem] theorem len (x:aY):(enc x).length=5:=by simp [enc,aC.len,aJ.len]
instance:En aY:=⟨5,enc,zero⟩
@[go_sem] theorem laws (x:aY) :
 zp5 (enc x)=true ∧
 zv2 (enc x)=true ∧
 zs0 [.i .i64,.i .i64,.i .i64,.i .i64,.i .i64] (enc x)=true ∧
 sub (enc x) 0 5=enc x ∧
 (∀ y,upd (enc x) 0 (enc y)=enc y) ∧
 sub (enc x) 0 3=aJ.enc x.aP ∧
 sub (enc x) 3 2=aC.enc x.aK ∧
 sub (enc x) 3 1=[A.int .i64 x.aK.mode] ∧
 sub (enc x) 4 1=[A.int .i64 x.aK.aT] ∧
 (∀ v,upd (enc x) 0 (aJ.enc v)=enc { x with aP:=v }) ∧
 (∀ v,upd (enc x) 3 (aC.enc v)=enc { x with aK:=v }) ∧
 (∀ (c0 c1 c2 c3 c4:A) (cs:List A),upd (c0 :: c1 :: c2 :: c3 :: c4 :: cs) 0 (enc x)=A.int .i64 x.aP.site :: A.int .i64 x.aP.inc :: A.int .i64 x.aP.num :: A.int .i64 x.aK.mode :: A.int .i64 x.aK.aT :: cs) ∧
 (∀ (c0 c1 c2 c3 c4:A),upd (enc x) 0 [c0,c1,c2,c3,c4]=[c0,c1,c2,c3,c4]):=by simp [sub,upd,zp5,A.pure1,zv2,A.scal1,zs0,LK.fits,eE,enc,aC.enc,aJ.enc]
@[go_sem] theorem eq (x y:aY):eqA (enc x) (enc y)=decide (x=y):=by
 rw [dL]; simp [eqA,eq1,zaw1,fR,enc,aC.enc,aJ.enc,aY.ext_iff,aC.ext_iff,aJ.ext_iff]
@[go_sem] theorem rep (n:Nat) (x:aY):List.replicate n (enc x)=(List.replicate n x).map enc:=by simp
end aY
@[ext] structure aX where
 aP:aJ
 aK:aC
 (bH bR:Int)
 deriving DecidableEq
namespace aX
def zero:aX:=⟨aJ.zero,aC.zero,0,0⟩
def enc (x:aX):List A:=aJ.enc x.aP++aC.enc x.aK++[A.int .i64 x.bH,A.int .i64 x.bR]
@[go_sem] theorem len (x:aX):(enc x).length=7:=by simp [enc,aC.len,aJ.len]
instance:En aX:=⟨7,enc,zero⟩
@[go_sem] theorem laws (x:aX) :
 zp5 (enc x)=true ∧
 zv2 (enc x)=true ∧
 zs0 [.i .i64,.i .i64,.i .i64,.i .i64,.i .i64,.i .i64,.i .i64] (enc x)=true ∧
 sub (enc x) 0 7=enc x ∧
 (∀ y,upd (enc x) 0 (enc y)=enc y) ∧
 sub (enc x) 0 3=aJ.enc x.aP ∧
 sub (enc x) 3 2=aC.enc x.aK ∧
 sub (enc x) 3 1=[A.int .i64 x.aK.mode] ∧
 sub (enc x) 4 1=[A.int .i64 x.aK.aT] ∧
 sub (enc x) 5 1=[A.int .i64 x.bH] ∧
 sub (enc x) 6 1=[A.int .i64 x.bR] ∧
 (∀ v,upd (enc x) 0 (aJ.enc v)=enc { x with aP:=v }) ∧
 (∀ v,upd (enc x) 3 (aC.enc v)=enc { x with aK:=v }) ∧
 (∀ v,upd (enc x) 5 ([A.int .i64 v])=enc { x with bH:=v }) ∧
 (∀ v,upd (enc x) 6 ([A.int .i64 v])=enc { x with bR:=v }) ∧
 (∀ (c0 c1 c2 c3 c4 c5 c6:A) (cs:List A),upd (c0 :: c1 :: c2 :: c3 :: c4 :: c5 :: c6 :: cs) 0 (enc x)=A.int .i64 x.aP.site :: A.int .i64 x.aP.inc :: A.int .i64 x.aP.num :: A.int .i64 x.aK.mode :: A.int .i64 x.aK.aT :: A.int .i64 x.bH :: A.int .i64 x.bR :: cs) ∧
 (∀ (c0 c1 c2 c3 c4 c5 c6:A),upd (enc x) 0 [c0,c1,c2,c3,c4,c5,c6]=[c0,c1,c2,c3,c4,c5,c6]):=by simp [sub,upd,zp5,A.pure1,zv2,A.scal1,zs0,LK.fits,eE,enc,aC.enc,aJ.enc]
@[go_sem] theorem eq (x y:aX):eqA (enc x) (enc y)=decide (x=y):=by
 rw [dL]; simp [eqA,eq1,zaw1,fR,enc,aC.enc,aJ.enc,aX.ext_iff,aC.ext_iff,aJ.ext_iff]
end aX
@[ext] structure aB where
 aA:aH
 aS:(List aY)
 (aI aV:(List aX))
 gen:Int
namespace aB
def zero:aB:=⟨aH.zero,[],[],[],0⟩
def enc (x:aB):List A:=aH.enc x.aA++[A.sl (x.aS.map aY.enc),A.sl (x.aI.map aX.enc),A.sl (x.aV.map aX.enc),A.int .i64 x.gen]
@[go_sem] theorem len (x:aB):(enc x).length=8:=by simp [enc,aH.len]
instance:En aB:=⟨8,enc,zero⟩
@[go_sem] theorem laws (x:aB) :
 zp5 (enc x)=true ∧
 zv2 (enc x)=false ∧
 sub (enc x) 0 8=enc x ∧
 (∀ y,upd (enc x) 0 (enc y)=enc y) ∧
 sub (enc x) 0 4=aH.enc x.aA ∧
 sub (enc x) 0 1=[A.str x.aA.name] ∧
 sub (enc x) 1 1=[A.int .i64 x.aA.kind] ∧
 sub (enc x) 2 1=[A.int .i64 x.aA.aT] ∧
 sub (enc x) 3 1=[A.int .i64 x.aA.home] ∧
 sub (enc x) 4 1=[A.sl (x.aS.map aY.enc)] ∧
 sub (enc x) 5 1=[A.sl (x.aI.map aX.enc)] ∧
 sub (enc x) 6 1=[A.sl (x.aV.map aX.enc)] ∧
 sub (enc x) 7 1=[A.int .i64 x.gen] ∧
 (∀ v,upd (enc x) 0 (aH.enc v)=enc { x with aA:=v }) ∧
 (∀ v,upd (enc x) 0 ([A.str v])=enc { x with aA:={ x.aA with name:=v } }) ∧
 (∀ v,upd (enc x) 1 ([A.int .i64 v])=enc { x with aA:={ x.aA with kind:=v } }) ∧
 (∀ v,upd (enc x) 2 ([A.int .i64 v])=enc { x with aA:={ x.aA with aT:=v } }) ∧
 (∀ v,upd (enc x) 3 ([A.int .i64 v])=enc { x with aA:={ x.aA with home:=v } }) ∧
 (∀ v,upd (enc x) 4 ([A.sl (v.map aY.enc)])=enc { x with aS:=v }) ∧
 (∀ v,upd (enc x) 5 ([A.sl (v.map aX.enc)])=enc { x with aI:=v }) ∧
 (∀ v,upd (enc x) 6 ([A.sl (v.map aX.enc)])=enc { x with aV:=v }) ∧
 (∀ v,upd (enc x) 7 ([A.int .i64 v])=enc { x with gen:=v }) ∧
 (∀ (c0 c1 c2 c3 c4 c5 c6 c7:A) (cs:List A),upd (c0 :: c1 :: c2 :: c3 :: c4 :: c5 :: c6 :: c7 :: cs) 0 (enc x)=A.str x.aA.name :: A.int .i64 x.aA.kind :: A.int .i64 x.aA.aT :: A.int .i64 x.aA.home :: A.sl (x.aS.map aY.enc) :: A.sl (x.aI.map aX.enc) :: A.sl (x.aV.map aX.enc) :: A.int .i64 x.gen :: cs) ∧
 (∀ (c0 c1 c2 c3 c4 c5 c6 c7:A),upd (enc x) 0 [c0,c1,c2,c3,c4,c5,c6,c7]=[c0,c1,c2,c3,c4,c5,c6,c7]) ∧
 (∀ y lo k,upd (enc x) 4 [.own y lo k]=[A.str x.aA.name,A.int .i64 x.aA.kind,A.int .i64 x.aA.aT,A.int .i64 x.aA.home,.own y lo k,A.sl (x.aI.map aX.enc),A.sl (x.aV.map aX.enc),A.int .i64 x.gen]) ∧
 (∀ y lo k,upd (enc x) 5 [.own y lo k]=[A.str x.aA.name,A.int .i64 x.aA.kind,A.int .i64 x.aA.aT,A.int .i64 x.aA.home,A.sl (x.aS.map aY.enc),.own y lo k,A.sl (x.aV.map aX.enc),A.int .i64 x.gen]) ∧
 (∀ y lo k,upd (enc x) 6 [.own y lo k]=[A.str x.aA.name,A.int .i64 x.aA.kind,A.int .i64 x.aA.aT,A.int .i64 x.aA.home,A.sl (x.aS.map aY.enc),A.sl (x.aI.map aX.enc),.own y lo k,A.int .i64 x.gen]):=by simp [sub,upd,zp5,A.pure1,zv2,A.scal1,zs0,LK.fits,eE,enc,aH.enc]
end aB
@[ext] structure aM where
 name:ByteArray
 aK:aC
 deriving DecidableEq
namespace aM
def zero:aM:=⟨⟨#[]⟩,aC.zero⟩
def enc (x:aM):List A:=[A.str x.name]++aC.enc x.aK
@[go_sem] theorem len (x:aM):(enc x).length=3:=by simp [enc,aC.len]
instance:En aM:=⟨3,enc,zero⟩
@[go_sem] theorem laws (x:aM) :
 zp5 (enc x)=true ∧
 zv2 (enc x)=true ∧
 zs0 [.s,.i .i64,.i .i64] (enc x)=true ∧
 sub (enc x) 0 3=enc x ∧
 (∀ y,upd (enc x) 0 (enc y)=enc y) ∧
 sub (enc x) 0 1=[A.str x.name] ∧
 sub (enc x) 1 2=aC.enc x.aK ∧
 sub (enc x) 1 1=[A.int .i64 x.aK.mode] ∧
 sub (enc x) 2 1=[A.int .i64 x.aK.aT] ∧
 (∀ v,upd (enc x) 0 ([A.str v])=enc { x with name:=v }) ∧
 (∀ v,upd (enc x) 1 (aC.enc v)=enc { x with aK:=v }) ∧
 (∀ (c0 c1 c2:A) (cs:List A),upd (c0 :: c1 :: c2 :: cs) 0 (enc x)=A.str x.name :: A.int .i64 x.aK.mode :: A.int .i64 x.aK.aT :: cs) ∧
 (∀ (c0 c1 c2:A),upd (enc x) 0 [c0,c1,c2]=[c0,c1,c2]):=by simp [sub,upd,zp5,A.pure1,zv2,A.scal1,zs0,LK.fits,eE,enc,aC.enc]
@[go_sem] theorem eq (x y:aM):eqA (enc x) (enc y)=decide (x=y):=by
 rw [dL]; simp [eqA,eq1,zaw1,fR,enc,aC.enc,aM.ext_iff,aC.ext_iff]
end aM
@[ext] structure aN where
 k:Int
 bF:aM
 bE:(List aN)
namespace aN
def zero:aN:=⟨0,aM.zero,[]⟩
def enc (x:aN):List A:=[A.int .i64 x.k]++aM.enc x.bF++[A.sl (x.bE.map aN.enc)]
termination_by _root_.SizeOf.sizeOf x
decreasing_by
 rename_i h
 have h2:=List.sizeOf_lt_of_mem h
 cases x
 simp at h2 ⊢
 omega
@[simp] theorem enc_mk (k:Int) (bF:aM) (bE:(List aN)):enc ⟨k,bF,bE⟩=[A.int .i64 k,A.str bF.name,A.int .i64 bF.aK.mode,A.int .i64 bF.aK.aT,A.sl (bE.map aN.enc)]:=by simp [enc,aC.enc,aM.enc]
@[simp] theorem zek8:zero.k=0∧zero.bF.name=⟨#[]⟩∧zero.bF.aK.mode=0∧zero.bF.aK.aT=0∧zero.bE=[]:=by and_intros <;> rfl
theorem enc_cells (x:aN):[A.int .i64 x.k,A.str x.bF.name,A.int .i64 x.bF.aK.mode,A.int .i64 x.bF.aK.aT,A.sl (x.bE.map aN.enc)]=enc x:=by simp [enc,aC.enc,aM.enc]
@[go_sem] theorem len (x:aN):(enc x).length=5:=by simp [enc,aM.len]
instance:En aN:=⟨5,enc,zero⟩
@[go_sem] theorem laws (x:aN) :
 zp5 (enc x)=true ∧
 zv2 (enc x)=false ∧
 sub (enc x) 0 5=enc x ∧
 (∀ y,upd (enc x) 0 (enc y)=enc y) ∧
 sub (enc x) 0 1=[A.int .i64 x.k] ∧
 sub (enc x) 1 3=aM.enc x.bF ∧
 sub (enc x) 1 1=[A.str x.bF.name] ∧
 sub (enc x) 2 2=aC.enc x.bF.aK ∧
 sub (enc x) 2 1=[A.int .i64 x.bF.aK.mode] ∧
 sub (enc x) 3 1=[A.int .i64 x.bF.aK.aT] ∧
 sub (enc x) 4 1=[A.sl (x.bE.map aN.enc)] ∧
 (∀ v,upd (enc x) 0 ([A.int .i64 v])=enc { x with k:=v }) ∧
 (∀ v,upd (enc x) 1 (aM.enc v)=enc { x with bF:=v }) ∧
 (∀ v,upd (enc x) 1 ([A.str v])=enc { x with bF:={ x.bF with name:=v } }) ∧
 (∀ v,upd (enc x) 2 (aC.enc v)=enc { x with bF:={ x.bF with aK:=v } }) ∧
 (∀ v,upd (enc x) 4 ([A.sl (v.map aN.enc)])=enc { x with bE:=v }) ∧
 (∀ (c0 c1 c2 c3 c4:A) (cs:List A),upd (c0 :: c1 :: c2 :: c3 :: c4 :: cs) 0 (enc x)=A.int .i64 x.k :: A.str x.bF.name :: A.int .i64 x.bF.aK.mode :: A.int .i64 x.bF.aK.aT :: A.sl (x.bE.map aN.enc) :: cs) ∧
 (∀ (c0 c1 c2 c3 c4:A),upd (enc x) 0 [c0,c1,c2,c3,c4]=[c0,c1,c2,c3,c4]) ∧
 (∀ y lo k,upd (enc x) 4 [.own y lo k]=[A.int .i64 x.k,A.str x.bF.name,A.int .i64 x.bF.aK.mode,A.int .i64 x.bF.aK.aT,.own y lo k]):=by simp [sub,upd,zp5,A.pure1,zv2,A.scal1,zs0,LK.fits,eE,enc,aC.enc,aM.enc]
end aN
@[ext] structure bN where
 aP:aJ
 bS:aN
 gen:Int
namespace bN
def zero:bN:=⟨aJ.zero,aN.zero,0⟩
def enc (x:bN):List A:=aJ.enc x.aP++aN.enc x.bS++[A.int .i64 x.gen]
@[simp] theorem enc_mk (aP:aJ) (bS:aN) (gen:Int):enc ⟨aP,bS,gen⟩=[A.int .i64 aP.site,A.int .i64 aP.inc,A.int .i64 aP.num,A.int .i64 bS.k,A.str bS.bF.name,A.int .i64 bS.bF.aK.mode,A.int .i64 bS.bF.aK.aT,A.sl (bS.bE.map aN.enc),A.int .i64 gen]:=by simp [enc,aC.enc,aM.enc,aN.enc,aJ.enc]
@[go_sem] theorem len (x:bN):(enc x).length=9:=by simp [enc,aN.len,aJ.len]
instance:En bN:=⟨9,enc,zero⟩
@[go_sem] theorem laws (x:bN) :
 zp5 (enc x)=true ∧
 zv2 (enc x)=false ∧
 sub (enc x) 0 9=enc x ∧
 (∀ y,upd (enc x) 0 (enc y)=enc y) ∧
 sub (enc x) 0 3=aJ.enc x.aP ∧
 sub (enc x) 3 5=aN.enc x.bS ∧
 sub (enc x) 8 1=[A.int .i64 x.gen] ∧
 (∀ v,upd (enc x) 0 (aJ.enc v)=enc { x with aP:=v }) ∧
 (∀ v,upd (enc x) 3 (aN.enc v)=enc { x with bS:=v }) ∧
 (∀ v,upd (enc x) 8 ([A.int .i64 v])=enc { x with gen:=v }) ∧
 (∀ (c0 c1 c2 c3 c4 c5 c6 c7 c8:A),upd (enc x) 0 [c0,c1,c2,c3,c4,c5,c6,c7,c8]=[c0,c1,c2,c3,c4,c5,c6,c7,c8]):=by simp [sub,upd,zp5,A.pure1,zv2,A.scal1,zs0,LK.fits,eE,enc,aC.enc,aM.enc,aN.enc,aJ.enc]
end bN
@[ext] structure aL where
 aF:(List aB)
 bB:(List bN)
namespace aL
def zero:aL:=⟨[],[]⟩
def enc (x:aL):List A:=[A.sl (x.aF.map aB.enc),A.sl (x.bB.map bN.enc)]
@[go_sem] theorem len (x:aL):(enc x).length=2:=by simp [enc]
instance:En aL:=⟨2,enc,zero⟩
@[go_sem] theorem laws (x:aL) :
 zp5 (enc x)=true ∧
 zv2 (enc x)=false ∧
 sub (enc x) 0 2=enc x ∧
 (∀ y,upd (enc x) 0 (enc y)=enc y) ∧
 sub (enc x) 0 1=[A.sl (x.aF.map aB.enc)] ∧
 sub (enc x) 1 1=[A.sl (x.bB.map bN.enc)] ∧
 (∀ v,upd (enc x) 0 ([A.sl (v.map aB.enc)])=enc { x with aF:=v }) ∧
 (∀ v,upd (enc x) 1 ([A.sl (v.map bN.enc)])=enc { x with bB:=v }) ∧
 (∀ (c0 c1:A) (cs:List A),upd (c0 :: c1 :: cs) 0 (enc x)=A.sl (x.aF.map aB.enc) :: A.sl (x.bB.map bN.enc) :: cs) ∧
 (∀ (c0 c1:A),upd (enc x) 0 [c0,c1]=[c0,c1]) ∧
 (∀ y lo k,upd (enc x) 0 [.own y lo k]=[.own y lo k,A.sl (x.bB.map bN.enc)]) ∧
 (∀ y lo k,upd (enc x) 1 [.own y lo k]=[A.sl (x.aF.map aB.enc),.own y lo k]):=by simp [sub,upd,zp5,A.pure1,zv2,A.scal1,zs0,LK.fits,eE,enc]
end aL
@[ext] structure bP where
 l:(List Int)
 at_:Int
namespace bP
def zero:bP:=⟨[],0⟩
def enc (x:bP):List A:=[A.sl (x.l.map (eI .i64)),A.int .i64 x.at_]
@[go_sem] theorem len (x:bP):(enc x).length=2:=by simp [enc]
instance:En bP:=⟨2,enc,zero⟩
@[go_sem] theorem laws (x:bP) :
 zp5 (enc x)=true ∧
 zv2 (enc x)=false ∧
 sub (enc x) 0 2=enc x ∧
 (∀ y,upd (enc x) 0 (enc y)=enc y) ∧
 sub (enc x) 0 1=[A.sl (x.l.map (eI .i64))] ∧
 sub (enc x) 1 1=[A.int .i64 x.at_] ∧
 (∀ v,upd (enc x) 0 ([A.sl (v.map (eI .i64))])=enc { x with l:=v }) ∧
 (∀ v,upd (enc x) 1 ([A.int .i64 v])=enc { x with at_:=v }) ∧
 (∀ (c0 c1:A) (cs:List A),upd (c0 :: c1 :: cs) 0 (enc x)=A.sl (x.l.map (eI .i64)) :: A.int .i64 x.at_ :: cs) ∧
 (∀ (c0 c1:A),upd (enc x) 0 [c0,c1]=[c0,c1]) ∧
 (∀ y lo k,upd (enc x) 0 [.own y lo k]=[.own y lo k,A.int .i64 x.at_]):=by simp [sub,upd,zp5,A.pure1,zv2,A.scal1,zs0,LK.fits,eE,enc]
end bP
@[ext] structure bM where
 name:ByteArray
 (before after:aC)
 deriving DecidableEq
namespace bM
def zero:bM:=⟨⟨#[]⟩,aC.zero,aC.zero⟩
def enc (x:bM):List A:=[A.str x.name]++aC.enc x.before++aC.enc x.after
@[go_sem] theorem len (x:bM):(enc x).length=5:=by simp [enc,aC.len]
instance:En bM:=⟨5,enc,zero⟩
@[go_sem] theorem laws (x:bM) :
 zp5 (enc x)=true ∧
 zv2 (enc x)=true ∧
 zs0 [.s,.i .i64,.i .i64,.i .i64,.i .i64] (enc x)=true ∧
 sub (enc x) 0 5=enc x ∧
 (∀ y,upd (enc x) 0 (enc y)=enc y) ∧
 sub (enc x) 0 1=[A.str x.name] ∧
 sub (enc x) 1 2=aC.enc x.before ∧
 sub (enc x) 3 2=aC.enc x.after ∧
 (∀ v,upd (enc x) 0 ([A.str v])=enc { x with name:=v }) ∧
 (∀ v,upd (enc x) 1 (aC.enc v)=enc { x with before:=v }) ∧
 (∀ v,upd (enc x) 3 (aC.enc v)=enc { x with after:=v }) ∧
 (∀ (c0 c1 c2 c3 c4:A) (cs:List A),upd (c0 :: c1 :: c2 :: c3 :: c4 :: cs) 0 (enc x)=A.str x.name :: A.int .i64 x.before.mode :: A.int .i64 x.before.aT :: A.int .i64 x.after.mode :: A.int .i64 x.after.aT :: cs) ∧
 (∀ (c0 c1 c2 c3 c4:A),upd (enc x) 0 [c0,c1,c2,c3,c4]=[c0,c1,c2,c3,c4]):=by simp [sub,upd,zp5,A.pure1,zv2,A.scal1,zs0,LK.fits,eE,enc,aC.enc]
end bM
@[ext] structure bU where
 (label at_:Int)
 deriving DecidableEq
namespace bU
def zero:bU:=⟨0,0⟩
def enc (x:bU):List A:=[A.int .i64 x.label,A.int .i64 x.at_]
@[go_sem] theorem len (x:bU):(enc x).length=2:=by simp [enc]
instance:En bU:=⟨2,enc,zero⟩
@[go_sem] theorem laws (x:bU) :
 zp5 (enc x)=true ∧
 zv2 (enc x)=true ∧
 zs0 [.i .i64,.i .i64] (enc x)=true ∧
 sub (enc x) 0 2=enc x ∧
 (∀ y,upd (enc x) 0 (enc y)=enc y) ∧
 sub (enc x) 0 1=[A.int .i64 x.label] ∧
 sub (enc x) 1 1=[A.int .i64 x.at_] ∧
 (∀ v,upd (enc x) 0 ([A.int .i64 v])=enc { x with label:=v }) ∧
 (∀ v,upd (enc x) 1 ([A.int .i64 v])=enc { x with at_:=v }) ∧
 (∀ (c0 c1:A) (cs:List A),upd (c0 :: c1 :: cs) 0 (enc x)=A.int .i64 x.label :: A.int .i64 x.at_ :: cs) ∧
 (∀ (c0 c1:A),upd (enc x) 0 [c0,c1]=[c0,c1]):=by simp [sub,upd,zp5,A.pure1,zv2,A.scal1,zs0,LK.fits,eE,enc]
end bU
@[ext] structure bA where
 aQ:(List bM)
 bG:(List bU)
namespace bA
def zero:bA:=⟨[],[]⟩
def enc (x:bA):List A:=[A.sl (x.aQ.map bM.enc),A.sl (x.bG.map bU.enc)]
@[go_sem] theorem len (x:bA):(enc x).length=2:=by simp [enc]
instance:En bA:=⟨2,enc,zero⟩
@[go_sem] theorem laws (x:bA) :
 zp5 (enc x)=true ∧
 zv2 (enc x)=false ∧
 sub (enc x) 0 2=enc x ∧
 (∀ y,upd (enc x) 0 (enc y)=enc y) ∧
 sub (enc x) 0 1=[A.sl (x.aQ.map bM.enc)] ∧
 sub (enc x) 1 1=[A.sl (x.bG.map bU.enc)] ∧
 (∀ v,upd (enc x) 0 ([A.sl (v.map bM.enc)])=enc { x with aQ:=v }) ∧
 (∀ v,upd (enc x) 1 ([A.sl (v.map bU.enc)])=enc { x with bG:=v }) ∧
 (∀ (c0 c1:A) (cs:List A),upd (c0 :: c1 :: cs) 0 (enc x)=A.sl (x.aQ.map bM.enc) :: A.sl (x.bG.map bU.enc) :: cs) ∧
 (∀ (c0 c1:A),upd (enc x) 0 [c0,c1]=[c0,c1]) ∧
 (∀ y lo k,upd (enc x) 0 [.own y lo k]=[.own y lo k,A.sl (x.bG.map bU.enc)]) ∧
 (∀ y lo k,upd (enc x) 1 [.own y lo k]=[A.sl (x.aQ.map bM.enc),.own y lo k]):=by simp [sub,upd,zp5,A.pure1,zv2,A.scal1,zs0,LK.fits,eE,enc]
end bA
@[ext] structure bO where
 bS:aN
 (bH limit:Int)
namespace bO
def zero:bO:=⟨aN.zero,0,0⟩
def enc (x:bO):List A:=aN.enc x.bS++[A.int .i64 x.bH,A.int .i64 x.limit]
@[go_sem] theorem len (x:bO):(enc x).length=7:=by simp [enc,aN.len]
instance:En bO:=⟨7,enc,zero⟩
@[go_sem] theorem laws (x:bO) :
 zp5 (enc x)=true ∧
 zv2 (enc x)=false ∧
 sub (enc x) 0 7=enc x ∧
 (∀ y,upd (enc x) 0 (enc y)=enc y) ∧
 sub (enc x) 0 5=aN.enc x.bS ∧
 sub (enc x) 5 1=[A.int .i64 x.bH] ∧
 sub (enc x) 6 1=[A.int .i64 x.limit] ∧
 (∀ v,upd (enc x) 0 (aN.enc v)=enc { x with bS:=v }) ∧
 (∀ v,upd (enc x) 5 ([A.int .i64 v])=enc { x with bH:=v }) ∧
 (∀ v,upd (enc x) 6 ([A.int .i64 v])=enc { x with limit:=v }) ∧
 (∀ (c0 c1 c2 c3 c4 c5 c6:A) (cs:List A),upd (c0 :: c1 :: c2 :: c3 :: c4 :: c5 :: c6 :: cs) 0 (enc x)=A.int .i64 x.bS.k :: A.str x.bS.bF.name :: A.int .i64 x.bS.bF.aK.mode :: A.int .i64 x.bS.bF.aK.aT :: A.sl (x.bS.bE.map aN.enc) :: A.int .i64 x.bH :: A.int .i64 x.limit :: cs) ∧
 (∀ (c0 c1 c2 c3 c4 c5 c6:A),upd (enc x) 0 [c0,c1,c2,c3,c4,c5,c6]=[c0,c1,c2,c3,c4,c5,c6]):=by simp [sub,upd,zp5,A.pure1,zv2,A.scal1,zs0,LK.fits,eE,enc,aC.enc,aM.enc,aN.enc]
end bO
@[ext] structure aG where
 aP:aJ
 cost:Int
 bK:bA
 bI:Bool
 bJ:bO
 (since gen:Int)
namespace aG
def zero:aG:=⟨aJ.zero,0,bA.zero,false,bO.zero,0,0⟩
def enc (x:aG):List A:=aJ.enc x.aP++[A.int .i64 x.cost]++bA.enc x.bK++[A.bool x.bI]++bO.enc x.bJ++[A.int .i64 x.since,A.int .i64 x.gen]
@[go_sem] theorem len (x:aG):(enc x).length=16:=by simp [enc,bA.len,aJ.len,bO.len]
instance:En aG:=⟨16,enc,zero⟩
@[go_sem] theorem laws (x:aG) :
 zp5 (enc x)=true ∧
 zv2 (enc x)=false ∧
 sub (enc x) 0 16=enc x ∧
 (∀ y,upd (enc x) 0 (enc y)=enc y) ∧
 sub (enc x) 0 3=aJ.enc x.aP ∧
 sub (enc x) 3 1=[A.int .i64 x.cost] ∧
 sub (enc x) 4 2=bA.enc x.bK ∧
 sub (enc x) 4 1=[A.sl (x.bK.aQ.map bM.enc)] ∧
 sub (enc x) 6 1=[A.bool x.bI] ∧
 sub (enc x) 7 7=bO.enc x.bJ ∧
 sub (enc x) 7 5=aN.enc x.bJ.bS ∧
 sub (enc x) 12 1=[A.int .i64 x.bJ.bH] ∧
 sub (enc x) 13 1=[A.int .i64 x.bJ.limit] ∧
 sub (enc x) 14 1=[A.int .i64 x.since] ∧
 sub (enc x) 15 1=[A.int .i64 x.gen] ∧
 (∀ v,upd (enc x) 0 (aJ.enc v)=enc { x with aP:=v }) ∧
 (∀ v,upd (enc x) 3 ([A.int .i64 v])=enc { x with cost:=v }) ∧
 (∀ v,upd (enc x) 4 (bA.enc v)=enc { x with bK:=v }) ∧
 (∀ v,upd (enc x) 6 ([A.bool v])=enc { x with bI:=v }) ∧
 (∀ v,upd (enc x) 7 (bO.enc v)=enc { x with bJ:=v }) ∧
 (∀ v,upd (enc x) 14 ([A.int .i64 v])=enc { x with since:=v }) ∧
 (∀ v,upd (enc x) 15 ([A.int .i64 v])=enc { x with gen:=v }) ∧
 (∀ (c0 c1 c2 c3 c4 c5 c6 c7 c8 c9 c10 c11 c12 c13 c14 c15:A),upd (enc x) 0 [c0,c1,c2,c3,c4,c5,c6,c7,c8,c9,c10,c11,c12,c13,c14,c15]=[c0,c1,c2,c3,c4,c5,c6,c7,c8,c9,c10,c11,c12,c13,c14,c15]):=by simp [sub,upd,zp5,A.pure1,zv2,A.scal1,zs0,LK.fits,eE,enc,aC.enc,aM.enc,aN.enc,bA.enc,aJ.enc,bO.enc]
end aG
@[ext] structure bD where
 now:Int
 aF:(List aB)
 aD:(List aG)
namespace bD
def zero:bD:=⟨0,[],[]⟩
def enc (x:bD):List A:=[A.int .i64 x.now,A.sl (x.aF.map aB.enc),A.sl (x.aD.map aG.enc)]
@[go_sem] theorem len (x:bD):(enc x).length=3:=by simp [enc]
instance:En bD:=⟨3,enc,zero⟩
@[go_sem] theorem laws (x:bD) :
 zp5 (enc x)=true ∧
 zv2 (enc x)=false ∧
 sub (enc x) 0 3=enc x ∧
 (∀ y,upd (enc x) 0 (enc y)=enc y) ∧
 sub (enc x) 0 1=[A.int .i64 x.now] ∧
 sub (enc x) 1 1=[A.sl (x.aF.map aB.enc)] ∧
 sub (enc x) 2 1=[A.sl (x.aD.map aG.enc)] ∧
 (∀ v,upd (enc x) 0 ([A.int .i64 v])=enc { x with now:=v }) ∧
 (∀ v,upd (enc x) 1 ([A.sl (v.map aB.enc)])=enc { x with aF:=v }) ∧
 (∀ v,upd (enc x) 2 ([A.sl (v.map aG.enc)])=enc { x with aD:=v }) ∧
 (∀ (c0 c1 c2:A) (cs:List A),upd (c0 :: c1 :: c2 :: cs) 0 (enc x)=A.int .i64 x.now :: A.sl (x.aF.map aB.enc) :: A.sl (x.aD.map aG.enc) :: cs) ∧
 (∀ (c0 c1 c2:A),upd (enc x) 0 [c0,c1,c2]=[c0,c1,c2]) ∧
 (∀ y lo k,upd (enc x) 1 [.own y lo k]=[A.int .i64 x.now,.own y lo k,A.sl (x.aD.map aG.enc)]) ∧
 (∀ y lo k,upd (enc x) 2 [.own y lo k]=[A.int .i64 x.now,A.sl (x.aF.map aB.enc),.own y lo k]):=by simp [sub,upd,zp5,A.pure1,zv2,A.scal1,zs0,LK.fits,eE,enc]
end bD
@[ext] structure bT where
 rest:(List Int)
 err:Int
namespace bT
def zero:bT:=⟨[],0⟩
def enc (x:bT):List A:=[A.sl (x.rest.map (eI .u8)),A.int .i64 x.err]
@[go_sem] theorem len (x:bT):(enc x).length=2:=by simp [enc]
instance:En bT:=⟨2,enc,zero⟩
@[go_sem] theorem laws (x:bT) :
 zp5 (enc x)=true ∧
 zv2 (enc x)=false ∧
 sub (enc x) 0 2=enc x ∧
 (∀ y,upd (enc x) 0 (enc y)=enc y) ∧
 sub (enc x) 0 1=[A.sl (x.rest.map (eI .u8))] ∧
 sub (enc x) 1 1=[A.int .i64 x.err] ∧
 (∀ v,upd (enc x) 0 ([A.sl (v.map (eI .u8))])=enc { x with rest:=v }) ∧
 (∀ v,upd (enc x) 1 ([A.int .i64 v])=enc { x with err:=v }) ∧
 (∀ (c0 c1:A) (cs:List A),upd (c0 :: c1 :: cs) 0 (enc x)=A.sl (x.rest.map (eI .u8)) :: A.int .i64 x.err :: cs) ∧
 (∀ (c0 c1:A),upd (enc x) 0 [c0,c1]=[c0,c1]) ∧
 (∀ y lo k,upd (enc x) 0 [.own y lo k]=[.own y lo k,A.int .i64 x.err]):=by simp [sub,upd,zp5,A.pure1,zv2,A.scal1,zs0,LK.fits,eE,enc]
end bT
@[ext] structure aU where
 bC:bT
namespace aU
def zero:aU:=⟨bT.zero⟩
def enc (x:aU):List A:=bT.enc x.bC
@[go_sem] theorem len (x:aU):(enc x).length=2:=by simp [enc,bT.len]
instance:En aU:=⟨2,enc,zero⟩
@[go_sem] theorem laws (x:aU) :
 zp5 (enc x)=true ∧
 zv2 (enc x)=false ∧
 sub (enc x) 0 2=enc x ∧
 (∀ y,upd (enc x) 0 (enc y)=enc y) ∧
 sub (enc x) 0 1=[A.sl (x.bC.rest.map (eI .u8))] ∧
 sub (enc x) 1 1=[A.int .i64 x.bC.err] ∧
 (∀ v,upd (enc x) 1 ([A.int .i64 v])=enc { x with bC:={ x.bC with err:=v } }) ∧
 (∀ (c0 c1:A) (cs:List A),upd (c0 :: c1 :: cs) 0 (enc x)=A.sl (x.bC.rest.map (eI .u8)) :: A.int .i64 x.bC.err :: cs) ∧
 (∀ (c0 c1:A),upd (enc x) 0 [c0,c1]=[c0,c1]):=by simp [sub,upd,zp5,A.pure1,zv2,A.scal1,zs0,LK.fits,eE,enc,bT.enc]
end aU
@[ext] structure aO where
 b:(List Int)
 (at_ e:Int)
namespace aO
def zero:aO:=⟨[],0,0⟩
def enc (x:aO):List A:=[A.sl (x.b.map (eI .u8)),A.int .i64 x.at_,A.int .i64 x.e]
@[go_sem] theorem len (x:aO):(enc x).length=3:=by simp [enc]
instance:En aO:=⟨3,enc,zero⟩
@[go_sem] theorem laws (x:aO) :
 zp5 (enc x)=true ∧
 zv2 (enc x)=false ∧
 sub (enc x) 0 3=enc x ∧
 (∀ y,upd (enc x) 0 (enc y)=enc y) ∧
 sub (enc x) 0 1=[A.sl (x.b.map (eI .u8))] ∧
 sub (enc x) 1 1=[A.int .i64 x.at_] ∧
 sub (enc x) 2 1=[A.int .i64 x.e] ∧
 (∀ v,upd (enc x) 0 ([A.sl (v.map (eI .u8))])=enc { x with b:=v }) ∧
 (∀ v,upd (enc x) 1 ([A.int .i64 v])=enc { x with at_:=v }) ∧
 (∀ v,upd (enc x) 2 ([A.int .i64 v])=enc { x with e:=v }) ∧
 (∀ (c0 c1 c2:A) (cs:List A),upd (c0 :: c1 :: c2 :: cs) 0 (enc x)=A.sl (x.b.map (eI .u8)) :: A.int .i64 x.at_ :: A.int .i64 x.e :: cs) ∧
 (∀ (c0 c1 c2:A),upd (enc x) 0 [c0,c1,c2]=[c0,c1,c2]) ∧
 (∀ y lo k,upd (enc x) 0 [.own y lo k]=[.own y lo k,A.int .i64 x.at_,A.int .i64 x.e]):=by simp [sub,upd,zp5,A.pure1,zv2,A.scal1,zs0,LK.fits,eE,enc]
end aO
@[ext] structure bQ where
 kind:Int
 aP:aJ
 bJ:bO
 name:ByteArray
 n:Int
namespace bQ
def zero:bQ:=⟨0,aJ.zero,bO.zero,⟨#[]⟩,0⟩
def enc (x:bQ):List A:=[A.int .i64 x.kind]++aJ.enc x.aP++bO.enc x.bJ++[A.str x.name,A.int .i64 x.n]
@[go_sem] theorem len (x:bQ):(enc x).length=13:=by simp [enc,aJ.len,bO.len]
instance:En bQ:=⟨13,enc,zero⟩
@[go_sem] theorem laws (x:bQ) :
 zp5 (enc x)=true ∧
 zv2 (enc x)=false ∧
 sub (enc x) 0 13=enc x ∧
 (∀ y,upd (enc x) 0 (enc y)=enc y) ∧
 sub (enc x) 0 1=[A.int .i64 x.kind] ∧
 sub (enc x) 1 3=aJ.enc x.aP ∧
 sub (enc x) 4 7=bO.enc x.bJ ∧
 sub (enc x) 11 1=[A.str x.name] ∧
 sub (enc x) 12 1=[A.int .i64 x.n] ∧
 (∀ v,upd (enc x) 0 ([A.int .i64 v])=enc { x with kind:=v }) ∧
 (∀ v,upd (enc x) 1 (aJ.enc v)=enc { x with aP:=v }) ∧
 (∀ v,upd (enc x) 4 (bO.enc v)=enc { x with bJ:=v }) ∧
 (∀ v,upd (enc x) 11 ([A.str v])=enc { x with name:=v }) ∧
 (∀ v,upd (enc x) 12 ([A.int .i64 v])=enc { x with n:=v }) ∧
 (∀ (c0 c1 c2 c3 c4 c5 c6 c7 c8 c9 c10 c11 c12:A),upd (enc x) 0 [c0,c1,c2,c3,c4,c5,c6,c7,c8,c9,c10,c11,c12]=[c0,c1,c2,c3,c4,c5,c6,c7,c8,c9,c10,c11,c12]):=by simp [sub,upd,zp5,A.pure1,zv2,A.scal1,zs0,LK.fits,eE,enc,aC.enc,aM.enc,aN.enc,aJ.enc,bO.enc]
end bQ
@[ext] structure bL where
 kind:Int
 aP:aJ
 name:ByteArray
 aK:aC
 deriving DecidableEq
namespace bL
def zero:bL:=⟨0,aJ.zero,⟨#[]⟩,aC.zero⟩
def enc (x:bL):List A:=[A.int .i64 x.kind]++aJ.enc x.aP++[A.str x.name]++aC.enc x.aK
@[go_sem] theorem len (x:bL):(enc x).length=7:=by simp [enc,aC.len,aJ.len]
instance:En bL:=⟨7,enc,zero⟩
@[go_sem] theorem laws (x:bL) :
 zp5 (enc x)=true ∧
 zv2 (enc x)=true ∧
 zs0 [.i .i64,.i .i64,.i .i64,.i .i64,.s,.i .i64,.i .i64] (enc x)=true ∧
 sub (enc x) 0 7=enc x ∧
 (∀ y,upd (enc x) 0 (enc y)=enc y) ∧
 (∀ v,upd (enc x) 0 ([A.int .i64 v])=enc { x with kind:=v }) ∧
 (∀ v,upd (enc x) 1 (aJ.enc v)=enc { x with aP:=v }) ∧
 (∀ v,upd (enc x) 4 ([A.str v])=enc { x with name:=v }) ∧
 (∀ v,upd (enc x) 5 (aC.enc v)=enc { x with aK:=v }) ∧
 (∀ (c0 c1 c2 c3 c4 c5 c6:A) (cs:List A),upd (c0 :: c1 :: c2 :: c3 :: c4 :: c5 :: c6 :: cs) 0 (enc x)=A.int .i64 x.kind :: A.int .i64 x.aP.site :: A.int .i64 x.aP.inc :: A.int .i64 x.aP.num :: A.str x.name :: A.int .i64 x.aK.mode :: A.int .i64 x.aK.aT :: cs) ∧
 (∀ (c0 c1 c2 c3 c4 c5 c6:A),upd (enc x) 0 [c0,c1,c2,c3,c4,c5,c6]=[c0,c1,c2,c3,c4,c5,c6]):=by simp [sub,upd,zp5,A.pure1,zv2,A.scal1,zs0,LK.fits,eE,enc,aC.enc,aJ.enc]
end bL
@[ext] structure aZ where
 c:bD
 ev:(List bL)
namespace aZ
def zero:aZ:=⟨bD.zero,[]⟩
def enc (x:aZ):List A:=bD.enc x.c++[A.sl (x.ev.map bL.enc)]
instance:En aZ:=⟨4,enc,zero⟩
end aZ
attribute [simp] aN.enc_cells
def zaU3:A→List Nat
 | .own x _ _=>[x]
 | .ptr x _ _=>[x]
 | _=>[]
def zbo9:A→List Nat
 | .clo _ cs=>cs.flatMap zaU3
 | a=>zaU3 a
def idsA:A→List Nat
 | .agg cs=>if zp5 cs then [] else cs.flatMap zbo9
 | a=>zbo9 a
def zG7:List A→List Nat
 | []=>[]
 | x :: xs=>idsA x++zG7 xs
def disj:List Nat→List Nat→Bool
 | [],_=>true
 | x :: xs,ys=>!ys.contains x&&disj xs ys
def zbc3 (an:List Nat) (i:Nat):List (List Nat×List Nat)→List Nat→List Nat→Bool
 | [],_,_=>true
 | q :: log,r,w=>(an.contains i||(disj q.2 r&&disj q.2 w&&disj w q.1))&&zbc3 an (i+1) log r w
def A.flatCap:A→Bool
 | .agg _=>false
 | .clo _ cs=>cs.isEmpty
 | _=>true
def zbg5:List A→Bool
 | []=>true
 | c :: cs=>c.flatCap&&zbg5 cs
def zaY8:List A→Bool
 | .clo _ caps :: _=>zbg5 caps
 | _=>true
theorem zbG1:∀ {cs:List A},zbg5 cs=true→∀ c ∈ cs,idsA c=zaU3 c
 | d :: ds,h,c,hc=>by
  simp only [zbg5,bX] at h
  rcases cJ.1 hc with rfl|hc
  ·cases c <;> first|rfl|(simp [A.flatCap] at h; done)|skip
   rename_i f cs
   cases cs with
   | nil=>rfl
   | cons x xs=>simp [A.flatCap] at h
  ·exact zbG1 h.2 c hc
def zaB3 (C:Cx) (an:List (List Nat)):List POp→St→List (List Nat×List Nat)→(St→Prop)→Prop
 | [],st,_,K=>K st
 | p :: ps,st,log,K=>aopS C p st.toS st.nx fun v mw=>zbc3 (an.getD log.length []) 0 log (zG7 (zv3 C st p.xs)) (mw.map (·.1))=true∧zaY8 (zv3 C st p.xs)=true ∧
   zaB3 C an ps (st.app p.dst v mw) (log++[(zG7 (zv3 C st p.xs),mw.map (·.1))]) K
section
variable {C:Cx} {E:Env}
theorem zdb1 {p:POp} {s:S} {id:Nat} {K:A→List (Nat×MS)→Prop} (h:aopS C p s id K):∃ v mw,K v mw∧aopS C p s id (fun v' mw'=>v'=v∧mw'=mw):=by
 unfold aopS at h ⊢
 cases hg:zR7 s.fr p.g with
 | none=>simp [hg] at h
 | some g =>
  simp only [hg] at h ⊢
  cases hp:p.po <;> simp only [hp] at h ⊢
  case pick =>
   split at h
   ·split at h
    ·exact ⟨_,_,h.2,h.1,rfl,rfl⟩
    ·exact h.elim
   ·exact h.elim
  case call f =>
   obtain ⟨r,h1,h2,h3⟩:=h
   exact ⟨_,_,h3,r,h1,h2,rfl,rfl⟩
  case callv =>
   split at h
   ·obtain ⟨r,h1,h2,h3⟩:=h
    exact ⟨_,_,h3,r,h1,h2,rfl,rfl⟩
   ·exact h.elim
  case callm f =>
   obtain ⟨l,as,ms,k,r,ms',k',h1,h2,h3,h4,h5⟩:=h
   exact ⟨_,_,h5,l,as,ms,k,r,ms',k',h1,h2,h3,h4,rfl,rfl⟩
  case callvm =>
   split at h
   ·obtain ⟨l,as,ms,k,r,ms',k',h1,h2,h3,h4,h5⟩:=h
    exact ⟨_,_,h5,l,as,ms,k,r,ms',k',h1,h2,h3,h4,rfl,rfl⟩
   ·exact h.elim
  all_goals
   split at h
   ·exact ⟨_,_,h.2.2,h.1,h.2.1,rfl,rfl⟩
   ·exact ⟨_,_,h.2.2,h.1,h.2.1,rfl,rfl⟩
theorem zdr4 {p:POp} {st:St} {K:A→List (Nat×MS)→Prop} (h:aopS C p st.toS st.nx K):aopS C p st.toS st.nx (fun v mw=>mwOk st.nx mw∧K v mw):=by
 unfold aopS at h ⊢
 simp only [St.toS] at h ⊢
 cases hg:zR7 st.slot p.g with
 | none=>simp [hg] at h
 | some g =>
  simp only [hg] at h ⊢
  cases hp:p.po <;> simp only [hp] at h ⊢
  case pick =>
   split at h
   ·split at h
    ·exact ⟨h.1,trivial,h.2⟩
    ·exact h.elim
   ·exact h.elim
  case call f =>
   obtain ⟨r,h1,h2,h3⟩:=h
   exact ⟨r,h1,h2,zbl1 st _ _,h3⟩
  case callv =>
   split at h
   ·obtain ⟨r,h1,h2,h3⟩:=h
    exact ⟨r,h1,h2,zbl1 st _ _,h3⟩
   ·exact h.elim
  case callm f=>exact zbL5 h
  case callvm =>
   split at h
   ·exact zbL5 h
   ·exact h.elim
  all_goals
   split at h
   ·rename_i ef hev
    obtain ⟨h1,h2,h3⟩:=h
    exact ⟨h1,h2,zcI8 hev,h3⟩
   ·exact ⟨h.1,h.2.1,trivial,h.2.2⟩
theorem zaY9 {m m2:Nat→MS} {x:A} (h:∀ y ∈ zbo9 x,m y=m2 y):frz1 m x=frz1 m2 x∧(zax6 m x ↔ zax6 m2 x):=by
 cases x <;> first|exact ⟨rfl,jN⟩|skip
 rename_i y lo n
 have:=h y (by simp [zbo9,zaU3])
 simp only [frz1,zax6,this,cW]
theorem zbP4 {x:A}:∀ y ∈ zax7 x,y ∈ idsA x:=by
 cases x <;> intro y hy <;> first|(simp [zax7,zS9] at hy; done)|skip
 ·rename_i z lo n; simpa [zax7,zS9,idsA,zbo9,zaU3] using hy
 ·rename_i cs
  simp only [zax7,idsA] at hy ⊢
  split at hy
  ·cases hy
  ·rename_i hp
   rw [bW hp]
   obtain ⟨c,hc,hy⟩:=eZ.1 hy
   refine eZ.2 ⟨c,hc,?_⟩
   cases c <;> simp [zS9] at hy
   subst hy; simp [zbo9,zaU3]
theorem zce1 {m m2:Nat→MS} {x:A} (h:∀ y ∈ idsA x,m y=m2 y):frz m x=frz m2 x∧(zaF7 m x ↔ zaF7 m2 x):=by
 cases x with
 | agg cs =>
  simp only [frz,zaF7]
  split
  ·exact ⟨rfl,jN⟩
  ·rename_i hp
   simp only [idsA,bW hp] at h
   have h2:∀ c ∈ cs,∀ y ∈ zbo9 c,m y=m2 y:=fun c hc y hy=>h y (eZ.2 ⟨c,hc,hy⟩)
   exact ⟨by rw [iV fun c hc=>(zaY9 (h2 c hc)).1],⟨fun hh c hc=>(zaY9 (h2 c hc)).2.1 (hh c hc),fun hh c hc=>(zaY9 (h2 c hc)).2.2 (hh c hc)⟩⟩
 | own x lo n=>exact zaY9 (x:=.own x lo n) h
 | _=>exact ⟨rfl,jN⟩
theorem zaZ0 {m m2:Nat→MS}:∀ {xs:List A},(∀ y ∈ zG7 xs,m y=m2 y)→zU0 m xs=zU0 m2 xs∧(zJ1 m xs ↔ zJ1 m2 xs)
 | [],_=>⟨rfl,jN⟩
 | x :: xs,h=>by
  obtain ⟨h1,h2⟩:=zce1 (x:=x) fun y hy=>h y (dI _ hy)
  obtain ⟨h3,h4⟩:=zaZ0 (xs:=xs) fun y hy=>h y (dA _ hy)
  simp only [zU0,zJ1,h1,h2,h3,h4,cW]
theorem zaQ6 {m m2:Nat→MS}:∀ {xs:List Nat},(∀ y ∈ xs,m y=m2 y)→zU9 m xs=zU9 m2 xs
 | [],_=>rfl
 | x :: xs,h=>by simp only [zU9,h x (.head _),zaQ6 fun y hy=>h y (.tail _ hy)]
theorem zaS8:∀ {xs:List A},∀ y ∈ zJ2 xs,y ∈ zG7 xs
 | x :: xs,y,hy=>by
  rcases cU.1 hy with h|h
  ·exact dI _ (zbP4 y h)
  ·exact dA _ (zaS8 y h)
theorem zcJ8:∀ {vs as:List A},∀ y ∈ fzM vs as,y ∈ zG7 vs
 | v :: vs,a :: as,y,hy=>by
  rcases cU.1 hy with h|h
  ·split at h
   ·cases h
   ·exact dI _ (zbP4 y h)
  ·exact dA _ (zcJ8 y h)
 | [],[],y,hy=>by cases hy
 | _ :: _,[],y,hy=>by cases hy
 | [],_ :: _,y,hy=>by cases hy
theorem zbG2 {m m2:Nat→MS} {l:List (Nat×Nat)} {k:Nat}:∀ {vs as:List A},(∀ y ∈ zG7 vs,m y=m2 y)→zbv1 m l k vs as→zbv1 m2 l k vs as
 | v :: vs,a :: as,h,h1=>by
  refine ⟨?_,zbG2 (fun y hy=>h y (dA _ hy)) h1.2⟩
  obtain ⟨h3,h4⟩:=zce1 (x:=v) fun y hy=>h y (dI _ hy)
  have h2:=h1.1
  unfold argM at h2 ⊢
  split
  ·rename_i hh; rw [bY hh] at h2; exact h2
  ·rename_i hh; rw [bW hh] at h2; exact ⟨h4.1 h2.1,h3 ▸ h2.2⟩
 | [],[],_,_=>trivial
 | _ :: _,[],_,h=>h.elim
 | [],_ :: _,_,h=>h.elim
theorem zbG3 {m m2:Nat→MS} {l:List (Nat×Nat)} {k:Nat} {fz:List Nat}:∀ {ms:List (Nat×Row)},(∀ q ∈ ms,m (rho l q.1)=m2 (rho l q.1))→zcc9 m l k fz ms→zcc9 m2 l k fz ms
 | [],_,_=>trivial
 | q :: ms,h,h1=>by
  obtain ⟨h2,h3,h4,h5,h6,h7⟩:=h1
  exact ⟨by rw [← h q (.head _)]; exact h2,h3,h4,h5,h6,zbG3 (fun p hp=>h p (.tail _ hp)) h7⟩
theorem zbr3 {L:List (Nat×Nat)} {ms':List (Nat×Row)}:∀ {ids:List Nat},∀ x ∈ ids,rho L x ∈ (zah8 L ms' ids).map (·.1)
 | y :: ids,x,h=>by
  rcases cJ.1 h with rfl|h
  ·exact .head _
  ·exact .tail _ (zbr3 x h)
theorem zbG4 {m m2:Nat→MS}:∀ {mw:List (Nat×MS)},(∀ y ∈ mw.map (·.1),m y=m2 y)→zbv2 m mw→zbv2 m2 mw
 | [],_,_=>trivial
 | q :: r,h,⟨h1,h3⟩=>⟨by rw [← h q.1 (.head _)]; exact h1,zbG4 (fun y hy=>h y (.tail _ hy)) h3⟩
theorem zbG5 {f:FuncId} {m m2:Nat→MS} {id:Nat} {vals:List A} {og:Option (Nat×Bool)} {g:Bool} {ob:Prop} {v:A} {mw:List (Nat×MS)} (h1:∀ y ∈ zG7 vals,m y=m2 y) (h2:∀ y ∈ mw.map (·.1),m y=m2 y)
  (h:zaQ2 C m id f vals og g ob (fun n=>∀ x,id≤x→x < id+n→m x=.fresh) (fun v' mw'=>v'=v∧mw'=mw)) :
  zaQ2 C m2 id f vals og g ob (fun n=>∀ x,id≤x→x < id+n→m2 x=.fresh) (fun v' mw'=>v'=v∧mw'=mw):=by
 obtain ⟨l,as,ms,k,r,ms',k',ht,hf,hvv,h5,h7,h8⟩:=h
 have e0:mwM m2 (l++newL k id (k' - k)) vals as ms ms' k k'=mw:=by rw [← h8,mwM,mwM,zaQ6 fun y hy=>h1 y (zcJ8 y hy)]
 refine ⟨l,as,ms,k,r,ms',k',fun hg=>?_,fun hg=>?_,hvv,h5,h7,e0⟩
 case refine_2 =>
  rw [e0]; rw [h8] at hf
  exact ⟨(hf hg).1,zbG4 h2 (hf hg).2⟩
 obtain ⟨hob,h3,h4,h6⟩:=ht hg
 obtain ⟨g1,g2,g3,g4,g5,g6,g7,g8⟩:=h4
 have hkk:k≤k':=fI g6
 have key:∀ x ∈ ms.map (·.1)++(List.range (k' - k)).map (k+·),m (rho (l++newL k id (k' - k)) x)=m2 (rho (l++newL k id (k' - k)) x):=fun x hx=>by
  refine h2 _ ?_
  rw [← h8,mwM,fG]
  exact dA _ (zbr3 x hx)
 have rhoOld:∀ x,x < k→rho (l++newL k id (k' - k)) x=rho l x:=fun x hx=>by
  simp only [rho,zah9,zaw0]
  rw [bW (by omega),jV]
 have rhoNew:∀ i,i < k' - k→rho (l++newL k id (k' - k)) (k+i)=id+i:=fun i hi=>by
  simp only [rho,zah9,zaw0]
  rw [zaT7 fun q hq=>by have:=g8 q hq; omega,bY (by omega)]
  simp
 refine ⟨hob,h3,⟨zbG2 h1 g1,zbG3 (fun q hq=>?_) g2,g3,g4,g5,g6,g7,g8⟩,fun x hx hx2=>?_⟩
 ·have:=key q.1 (dI _ (cR.2 ⟨q,hq,rfl⟩))
  rwa [rhoOld q.1 (zaT9 g2 q.1 q.2 hq).2.2.1] at this
 ·have:=key (k+(x - id)) (dA _ (cR.2 ⟨x - id,eR.2 (by omega),rfl⟩))
  rw [rhoNew _ (by omega),show id+(x - id)=x by omega] at this
  rw [← this]; exact h6 x hx hx2
theorem zbZ6 (x y:List A):zG7 (x++y)=zG7 x++zG7 y:=by
 induction x with
 | nil=>rfl
 | cons a x ih=>simp only [List.cons_append,zG7,ih,cG]
theorem zbG6 {y:Nat}:∀ {caps:List A},(∀ c ∈ caps,idsA c=zaU3 c)→y ∈ zG7 caps→y ∈ caps.flatMap zaU3
 | c :: cs,hc,h=>by
  rcases cU.1 h with h|h
  ·exact eZ.2 ⟨c,.head _,hc c (.head _) ▸ h⟩
  ·obtain ⟨d,hd,h2⟩:=eZ.1 (zbG6 (fun d hd=>hc d (.tail _ hd)) h)
   exact eZ.2 ⟨d,.tail _ hd,h2⟩
theorem zbG7 {f:FuncId} {caps vals:List A} {y:Nat} (h:y ∈ zG7 (vals++caps)) (hc:∀ c ∈ caps,idsA c=zaU3 c):y ∈ zG7 (.clo f caps :: vals):=by
 rw [zbZ6] at h
 simp only [zG7,cU]
 rcases cU.1 h with h|h
 ·exact .inr h
 ·exact .inl (zbG6 hc h)
theorem zdb2 {id:Nat} {m m2:Nat→MS} {po:PO} {vals:List A} (h:∀ y ∈ zG7 vals,m y=m2 y):ev id m po vals=ev id m2 po vals:=by
 have e1:∀ {x:A} {xs:List A},vals=x :: xs→(∀ y ∈ idsA x,m y=m2 y):=fun hv y hy=>h y (by rw [hv]; exact dI _ hy)
 have e2:∀ {x x2:A} {xs:List A},vals=x :: x2 :: xs→(∀ y ∈ idsA x2,m y=m2 y):=fun hv y hy=>h y (by rw [hv]; exact dA _ (dI _ hy))
 have own:∀ {x:Nat} {lo n:Nat} ,(∀ y ∈ idsA (.own x lo n),m y=m2 y)→m x=m2 x:=fun hh=>hh _ (by simp [idsA,zbo9,zaU3])
 have ptr:∀ {x:Nat} {lo n:Nat} ,(∀ y ∈ idsA (.ptr x lo n),m y=m2 y)→m x=m2 x:=fun hh=>hh _ (by simp [idsA,zbo9,zaU3])
 have hel:∀ {x:A},(∀ y ∈ idsA x,m y=m2 y)→zaJ4 m x=zaJ4 m2 x∧zao6 m x=zao6 m2 x:=fun {x} hh=>by
  cases x <;> first|exact ⟨rfl,rfl⟩|skip
  simp only [zaJ4,zao6,own hh,cW]
 have hsl:∀ {x:A} {sz:Nat} {lo hi mx:Option Int},(∀ y ∈ idsA x,m y=m2 y)→zaB2 m sz x lo hi mx=zaB2 m2 sz x lo hi mx:=fun {x sz lo hi mx} hh=>by
  cases x <;> cases mx <;> first|rfl|(simp only [zaB2,own hh])
 cases po
 case slc sz lo hi mx =>
  rcases vals with _|⟨x,_|⟨x2,_|⟨x3,_|⟨x4,_|⟨x5,xs⟩⟩⟩⟩⟩
  ·cases lo <;> cases hi <;> cases mx <;> rfl
  ·have hx:=e1 rfl
   have:=fun {lo hi mx}=>hsl (sz:=sz) (lo:=lo) (hi:=hi) (mx:=mx) hx
   cases lo <;> cases hi <;> cases mx <;> first|rfl|(simp only [ev,this])
  ·have hx:=e1 rfl
   have:=fun {lo hi mx}=>hsl (sz:=sz) (lo:=lo) (hi:=hi) (mx:=mx) hx
   cases lo <;> cases hi <;> cases mx <;> cases x2 <;> first|rfl|(simp only [ev,this])
  ·have hx:=e1 rfl
   have:=fun {lo hi mx}=>hsl (sz:=sz) (lo:=lo) (hi:=hi) (mx:=mx) hx
   cases lo <;> cases hi <;> cases mx <;> cases x2 <;> cases x3 <;> first|rfl|(simp only [ev,this])
  ·have hx:=e1 rfl
   have:=fun {lo hi mx}=>hsl (sz:=sz) (lo:=lo) (hi:=hi) (mx:=mx) hx
   cases lo <;> cases hi <;> cases mx <;> first|rfl|(cases x2 <;> first|rfl|(cases x3 <;> first|rfl|(cases x4 <;> first|rfl|(simp only [ev,this]))))
  ·cases lo <;> cases hi <;> cases mx <;> first|rfl|(cases x2 <;> first|rfl|(cases x3 <;> first|rfl|(cases x4 <;> rfl)))
 case slcS lo hi =>
  rcases vals with _|⟨x,_|⟨x2,_|⟨x3,_|⟨x4,xs⟩⟩⟩⟩ <;> cases lo <;> cases hi <;> first|rfl|(cases x <;> first|rfl|(cases x2 <;> first|rfl|(cases x3 <;> rfl)))
 case cvS =>
  rcases vals with _|⟨x,_|⟨x2,xs⟩⟩ <;> first|rfl|skip
  obtain ⟨g1,g2⟩:=hel (e1 rfl)
  simp only [ev,g1,g2]
 case append sz bytes z =>
  rcases vals with _|⟨x,_|⟨x2,_|⟨x3,xs⟩⟩⟩ <;> first|rfl|skip
  have hx:=e1 rfl
  obtain ⟨g1,g2⟩:=hel (e2 rfl)
  simp only [ev,g1,g2]
  cases x <;> first|rfl|skip
  have e:=own hx
  simp only [e]
 case appc sz bytes =>
  rcases vals with _|⟨x,_|⟨x2,_|⟨x3,xs⟩⟩⟩ <;> first|rfl|skip
  have hx:=e1 rfl
  obtain ⟨g1,g2⟩:=hel (e2 rfl)
  simp only [ev,g1,g2]
  cases x <;> first|rfl|skip
  have e:=own hx
  simp only [e]
 case clear sz z =>
  rcases vals with _|⟨x,_|⟨x2,xs⟩⟩ <;> first|rfl|skip
  have hx:=e1 rfl
  simp only [ev]
  cases x <;> first|rfl|skip
  have e:=own hx
  simp only [e]
 case copy sz =>
  rcases vals with _|⟨x,_|⟨x2,_|⟨x3,xs⟩⟩⟩ <;> first|rfl|skip
  have hx:=e1 rfl
  obtain ⟨g1,g2⟩:=hel (e2 rfl)
  simp only [ev,g1,g2]
  cases x <;> first|rfl|skip
  have e:=own hx
  simp only [e]
 case load n ag =>
  rcases vals with _|⟨x,_|⟨x2,xs⟩⟩ <;> first|rfl|skip
  have hx:=e1 rfl
  cases x <;> first|rfl|skip
  have e:=ptr hx
  simp only [ev,e]
 case store n =>
  rcases vals with _|⟨x,_|⟨x2,_|⟨x3,xs⟩⟩⟩ <;> first|rfl|skip
  have hx:=e1 rfl
  cases x <;> first|rfl|skip
  have e:=ptr hx
  simp only [ev,e]
 case faddr off =>
  rcases vals with _|⟨x,_|⟨x2,xs⟩⟩ <;> first|rfl|skip
  have hx:=e1 rfl
  cases x <;> first|rfl|skip
  have e:=ptr hx
  simp only [ev,e]
 case nilck =>
  rcases vals with _|⟨x,_|⟨x2,xs⟩⟩ <;> first|rfl|skip
  have hx:=e1 rfl
  cases x <;> first|rfl|skip
  have e:=ptr hx
  simp only [ev,e]
 case len =>
  rcases vals with _|⟨x,_|⟨x2,xs⟩⟩ <;> first|rfl|skip
  have hx:=e1 rfl
  cases x <;> first|rfl|skip
  have e:=own hx
  simp only [ev,e]
 case iaA n sz =>
  rcases vals with _|⟨x,_|⟨x2,_|⟨x3,xs⟩⟩⟩ <;> first|rfl|(cases x2 <;> rfl)|skip
  have hx:=e1 rfl
  cases x2 <;> first|rfl|skip
  cases x <;> first|rfl|skip
  have e:=ptr hx
  simp only [ev,e]
 case iaS sz z =>
  rcases vals with _|⟨x,_|⟨x2,_|⟨x3,xs⟩⟩⟩ <;> first|rfl|(cases x2 <;> rfl)|skip
  have hx:=e1 rfl
  cases x2 <;> first|rfl|skip
  cases x <;> first|rfl|skip
  have e:=own hx
  simp only [ev,e]
 all_goals first
  | rfl
  | (rcases vals with _|⟨x,_|⟨x2,_|⟨x3,xs⟩⟩⟩ <;> first|rfl|(cases x <;> first|rfl|(cases x2 <;> rfl)))
theorem zbG8 {fr f2:Nat→A}:∀ (xs:List PX),(∀ t ∈ rdsX xs,fr t=f2 t)→zO1 C fr xs=zO1 C f2 xs∧(gdsF C fr xs ↔ gdsF C f2 xs)
 | [],_=>⟨rfl,jN⟩
 | x :: xs,h=>by
  have h1:=zaG0 (x:=x) C.G (f:=fr) (g:=f2) fun t ht=>h t ((zT1 x xs t).2 (.inl ht))
  obtain ⟨h2,h3⟩:=zbG8 xs fun t ht=>h t ((zT1 x xs t).2 (.inr ht))
  simp only [zO1,gdsF,h1,h2,h3,cW]
theorem zcB2 {p:POp} {s s2:S} {id:Nat} {v:A} {mw:List (Nat×MS)} (hr:∀ t ∈ p.rds,s.fr t=s2.fr t) (hm:∀ y ∈ zG7 (zO1 C s.fr p.xs),s.mem y=s2.mem y) (hw:∀ y ∈ mw.map (·.1),s.mem y=s2.mem y)
  (hcap:∀ f caps vals,(p.po=.callv∨p.po=.callvm)→zO1 C s.fr p.xs=.clo f caps :: vals→∀ c ∈ caps,idsA c=zaU3 c)
  (h:aopS C p s id (fun v' mw'=>v'=v∧mw'=mw)):aopS C p s2 id (fun v' mw'=>v'=v∧mw'=mw):=by
 have hx:∀ t ∈ rdsX p.xs,s.fr t=s2.fr t:=fun t ht=>hr t (dA _ ht)
 obtain ⟨hv,hgd⟩:=zbG8 (C:=C) p.xs hx
 have hgo:zR7 s2.fr p.g=zR7 s.fr p.g:=by
  cases hg:p.g with
  | none=>rfl
  | some q=>simp only [zR7]; rw [hr q.1 (dI _ (by simp [hg]))]
 obtain ⟨hf1,hf2⟩:=zaZ0 hm
 have hcm:∀ r,zO8 s.mem (zO1 C s.fr p.xs) r=zO8 s2.mem (zO1 C s.fr p.xs) r:=fun r=>by
  simp only [zO8,zaQ6 fun y hy=>hm y (zaS8 y hy)]
 unfold aopS at h ⊢
 rw [hgo,← hv,← hgd]
 cases hg:zR7 s.fr p.g with
 | none=>simp [hg] at h
 | some g =>
  simp only [hg] at h ⊢
  cases hp:p.po <;> simp only [hp] at h ⊢
  case pick =>
   split at h
   ·rename_i c x y hxs
    simp only [hxs] at hx ⊢
    have e1:=zaG0 (x:=c) C.G (f:=s.fr) (g:=s2.fr) fun t ht=>hx t ((zT1 _ _ _).2 (.inl ht))
    have e2:=zaG0 (x:=x) C.G (f:=s.fr) (g:=s2.fr) fun t ht=>hx t ((zT1 _ _ _).2 (.inr ((zT1 _ _ _).2 (.inl ht))))
    have e3:=zaG0 (x:=y) C.G (f:=s.fr) (g:=s2.fr) fun t ht=>hx t ((zT1 _ _ _).2 (.inr ((zT1 _ _ _).2 (.inr ht))))
    rw [← e1,← e2,← e3]
    exact h
   ·exact h.elim
  case call f =>
   rw [← hf1,← hf2]
   obtain ⟨r,h1,h2,h3⟩:=h
   exact ⟨r,h1,by rw [← hcm]; exact h2,by rw [← hcm]; exact h3⟩
  case callv =>
   split at h
   ·rename_i f caps vals hvals
    have hc:=hcap f caps vals (.inl hp) hvals
    have hm2:∀ y ∈ zG7 (vals++caps),s.mem y=s2.mem y:=fun y hy=>hm y (by rw [hvals]; exact zbG7 hy hc)
    obtain ⟨g1,g2⟩:=zaZ0 hm2
    have hcm2:∀ r,zO8 s.mem (vals++caps) r=zO8 s2.mem (vals++caps) r:=fun r=>by
     simp only [zO8,zaQ6 fun y hy=>hm2 y (zaS8 y hy)]
    obtain ⟨r,h1,h2,h3⟩:=h
    rw [← g1,← g2]
    exact ⟨r,h1,by rw [← hcm2]; exact h2,by rw [← hcm2]; exact h3⟩
   ·exact h.elim
  case callm f=>exact zbG5 hm hw h
  case callvm =>
   split at h
   ·rename_i f caps vals hvals
    have hc:=hcap f caps vals (.inr hp) hvals
    exact zbG5 (fun y hy=>hm y (by rw [hvals]; exact zbG7 hy hc)) hw h
   ·exact h.elim
  all_goals
   rw [← zdb2 (id:=id) hm]
   exact h
theorem zdF2 {id:Nat} {m:Nat→MS} {po:PO} {vals:List A} {ef:Ef} (h:ev id m po vals=some ef):id ∈ ef.mw.map (·.1)∨∀ id',ev id' m po vals=some ef:=by
 cases po
 case nilown sz z=>rcases vals with _|⟨x,_|⟨x2,xs⟩⟩ <;> cases h; exact .inl (by simp)
 case box n=>rcases vals with _|⟨x,_|⟨x2,xs⟩⟩ <;> cases h; exact .inl (by simp)
 case alloc n z=>rcases vals with _|⟨x,xs⟩ <;> cases h; exact .inl (by simp)
 case bown sz z=>simp only [ev,cV] at h; subst h; exact .inl (by simp)
 case mk sz b z =>
  rcases vals with _|⟨x,_|⟨x2,_|⟨x3,xs⟩⟩⟩ <;> first|(cases h; done)|(cases x <;> cases h; done)|skip
  ·cases x <;> cases x2 <;> cases h; exact .inl (by simp)
  ·cases x <;> cases x2 <;> cases h
 case append sz b z =>
  rcases vals with _|⟨x,_|⟨x2,_|⟨x3,xs⟩⟩⟩ <;> first|(cases h; done)|skip
  simp only [ev,gE] at h
  obtain ⟨new,hnew,h⟩:=h
  cases x <;> simp only [] at h <;> first|(cases h; done)|skip
  ·cases h; exact .inl (by simp)
  ·split at h
   ·cases h; exact .inl (by simp)
   ·cases h
 case appc sz b =>
  rcases vals with _|⟨x,_|⟨x2,_|⟨x3,xs⟩⟩⟩ <;> first|(cases h; done)|skip
  simp only [ev,gE] at h
  obtain ⟨new,hnew,h⟩:=h
  cases x <;> simp only [] at h <;> first|(cases h; done)|skip
  split at h
  ·cases h; exact .inl (by simp)
  ·cases h
 all_goals
  refine .inr fun id'=>?_
  rw [← h]
  first
   | rfl
   | (rename_i lo hi mx; cases lo <;> cases hi <;> cases mx <;> rcases vals with _|⟨x,_|⟨x2,_|⟨x3,_|⟨x4,_|⟨x5,xs⟩⟩⟩⟩⟩ <;> first|rfl|(cases x2 <;> first|rfl|(cases x3 <;> first|rfl|(cases x4 <;> rfl))))
   | (rename_i lo hi; cases lo <;> cases hi <;> rcases vals with _|⟨x,_|⟨x2,_|⟨x3,_|⟨x4,xs⟩⟩⟩⟩ <;> first|rfl|(cases x <;> first|rfl|(cases x2 <;> first|rfl|(cases x3 <;> rfl))))
   | (rcases vals with _|⟨x,_|⟨x2,_|⟨x3,xs⟩⟩⟩ <;> first|rfl|(cases x <;> first|rfl|(cases x2 <;> rfl))|(cases x2 <;> rfl))
theorem zdr5 {p:POp} {s:S} {id:Nat} {v:A} {mw:List (Nat×MS)} (h:aopS C p s id (fun v' mw'=>v'=v∧mw'=mw)):id ∈ mw.map (·.1)∨∀ id',id≤id'→aopS C p s id' (fun v' mw'=>v'=v∧mw'=mw):=by
 have cm:∀ {f:FuncId} {vals:List A} {og:Option (Nat×Bool)} {g:Bool} {ob:Prop},zaQ2 C s.mem id f vals og g ob (fun n=>∀ x,id≤x→x < id+n→s.mem x=.fresh) (fun v' mw'=>v'=v∧mw'=mw) →
   id ∈ mw.map (·.1)∨∀ id',id≤id'→zaQ2 C s.mem id' f vals og g ob (fun n=>∀ x,id'≤x→x < id'+n→s.mem x=.fresh) (fun v' mw'=>v'=v∧mw'=mw):=fun {f vals og g ob} h=>by
  obtain ⟨l,as,ms,k,r,ms',k',ht,hf,hvv,h5,h7,h8⟩:=h
  by_cases hk:k=k'
  ·have en:∀ id',newL k id' (k' - k)=[]:=fun id'=>by rw [hk,gT]; rfl
   simp only [en] at hf hvv h7 h8
   refine .inr fun id' hid=>⟨l,as,ms,k,r,ms',k',fun hg=>?_,?_⟩
   ·obtain ⟨hob,h3,h4,h6⟩:=ht hg
    obtain ⟨g1,g2,g3,g4,g5,g6,g7,g8⟩:=h4
    exact ⟨hob,h3,⟨g1,g2,g3,g4,g5,g6,fun q hq=>dZ (g7 q hq) hid,g8⟩,fun x hx hx2=>by omega⟩
   ·simp only [en]
    exact ⟨hf,hvv,h5,h7,h8⟩
  ·have hg:g=true:=by
    cases g with
    | true=>rfl
    | false=>exact absurd (hf rfl).1 hk
   obtain ⟨hob,h3,h4,h6⟩:=ht hg
   obtain ⟨g1,g2,g3,g4,g5,g6,g7,g8⟩:=h4
   have hkk:k≤k':=fI g6
   left
   rw [← h8,mwM,fG]
   refine dA _ ?_
   have:=zbr3 (L:=l++newL k id (k' - k)) (ms':=ms') (ids:=ms.map (·.1)++(List.range (k' - k)).map (k+·)) (k+0) (dA _ (cR.2 ⟨0,eR.2 (by omega),rfl⟩))
   have e:rho (l++newL k id (k' - k)) (k+0)=id+0:=by
    simp only [rho,zah9,zaw0]
    rw [zaT7 fun q hq=>by have:=g8 q hq; omega,bY (by omega)]
    simp
   rw [e] at this
   exact this
 unfold aopS at h ⊢
 cases hg:zR7 s.fr p.g with
 | none=>simp [hg] at h
 | some g =>
  simp only [hg] at h ⊢
  cases hp:p.po <;> simp only [hp] at h ⊢
  case pick=>exact .inr fun _ _=>h
  case call f=>exact .inr fun _ _=>h
  case callv=>exact .inr fun _ _=>h
  case callm f =>
   exact cm h
  case callvm =>
   split at h
   ·exact cm h
   ·exact h.elim
  all_goals
   split at h
   ·rename_i ef hev
    obtain ⟨h1,h2,h3,h4⟩:=h
    rcases zdF2 hev with g1|g1
    ·exact .inl (h4 ▸ g1)
    ·exact .inr fun id' _=>by rw [g1 id']; exact ⟨h1,h2,h3,h4⟩
   ·rename_i hev
    exact .inr fun id' _=>by rw [← zdx8 (id:=id) h.2.1,hev]; exact h
end
end Ab
end Go.Proofs.YtcggeefhhegeoaaGreatDoor
