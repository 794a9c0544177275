import Derived.Test.YtogpinppgncpmaaGreatDoorAb17
import Derived.Orders
namespace Go.Proofs.YtogpinppgncpmaaGreatDoor
namespace Ab
set_option linter.unusedSimpArgs false
set_option linter.unusedVariables false
def zba6 (C:Cx):List POp→St→(St→Prop)→Prop
 | [],st,K=>K st
 | p :: ps,st,K=>aop C p st fun st'=>(st'.mem=st.mem∧st'.nx=st.nx)∧zba6 C ps st' K
section
variable {C:Cx} {E:Env}
theorem zdn0 {p:POp} {st:St} {K:St→Prop} (h:aop C p st K):∃ v mw,K (st.app p.dst v mw)∧aop C p st (fun s=>s=st.app p.dst v mw):=by
 unfold aop at h ⊢
 cases hg:zR5 st p.g with
 | none=>simp [hg] at h
 | some g =>
  simp only [hg] at h ⊢
  cases hp:p.po <;> simp only [hp] at h ⊢
  case pick =>
   split at h
   ·split at h
    ·exact ⟨_,_,h.2,h.1,rfl⟩
    ·exact h.elim
   ·exact h.elim
  case call f =>
   obtain ⟨r,h1,h2,h3⟩:=h
   exact ⟨_,_,h3,r,h1,h2,rfl⟩
  case callv =>
   split at h
   ·obtain ⟨r,h1,h2,h3⟩:=h
    exact ⟨_,_,h3,r,h1,h2,rfl⟩
   ·exact h.elim
  case callm f =>
   obtain ⟨l,as,ms,k,r,ms',k',h1,h2,h3,h4,h5⟩:=h
   exact ⟨_,_,h5,l,as,ms,k,r,ms',k',h1,h2,h3,h4,rfl⟩
  case callvm =>
   split at h
   ·obtain ⟨l,as,ms,k,r,ms',k',h1,h2,h3,h4,h5⟩:=h
    exact ⟨_,_,h5,l,as,ms,k,r,ms',k',h1,h2,h3,h4,rfl⟩
   ·exact h.elim
  all_goals
   split at h
   ·exact ⟨_,_,h.2.2,h.1,h.2.1,rfl⟩
   ·exact ⟨_,_,h.2.2,h.1,h.2.1,rfl⟩
theorem zaE4 {x:PX} {f g:Nat→A} (G:zbD6) (h:∀ t ∈ rdsX [x],f t=g t):xv G f x=xv G g x:=by
 cases x <;> first|rfl|exact h _ (by simp [rdsX])
theorem zR6 (x:PX) (xs:List PX) (t:Nat):t ∈ rdsX (x :: xs) ↔ t ∈ rdsX [x]∨t ∈ rdsX xs:=by
 cases x <;> simp [rdsX]
theorem zbu7 {st st2:St}:∀ (xs:List PX),(∀ t ∈ rdsX xs,st.slot t=st2.slot t)→zs8 C st xs=zs8 C st2 xs∧(zau3 C st xs ↔ zau3 C st2 xs)
 | [],_=>⟨rfl,jT⟩
 | x :: xs,h=>by
  have h1:=zaE4 (x:=x) C.G (f:=st.slot) (g:=st2.slot) fun t ht=>h t ((zR6 x xs t).2 (.inl ht))
  obtain ⟨h2,h3⟩:=zbu7 xs fun t ht=>h t ((zR6 x xs t).2 (.inr ht))
  simp only [zs8,zau3,h1,h2,h3,cV]
theorem zcH2 {st st2:St} (hm:st2.mem=st.mem) (hn:st2.nx=st.nx):st2.m=st.m:=by
 funext x; simp only [St.m,hm,hn]
theorem zaX1 {st:St} {d:Option Nat} {v u:A} {mw:List (Nat×MS)} {st2:St} (h:st.app d u mw=st.app d v []) (hm:st2.mem=st.mem) (hn:st2.nx=st.nx):st2.app d u mw=st2.app d v []:=by
 simp only [St.app,St.mk.injEq,putM,nxt] at h ⊢
 obtain ⟨h1,h2,h3⟩:=h
 refine ⟨?_,by rw [hm]; exact h2,by rw [hn]; exact h3⟩
 cases d with
 | none=>rfl
 | some d =>
  simp only [putF,List.cons.injEq,Prod.mk.injEq,gD,kB] at h1 ⊢
  exact h1
theorem zcM6 {p:POp} {st st2:St} {v:A} (hm:st2.mem=st.mem) (hn:st2.nx=st.nx) (hr:∀ t ∈ p.rds,st.slot t=st2.slot t)
  (h:aop C p st (fun s=>s=st.app p.dst v [])):aop C p st2 (fun s=>s=st2.app p.dst v []):=by
 have hx:∀ t ∈ rdsX p.xs,st.slot t=st2.slot t:=fun t ht=>hr t (cY _ ht)
 obtain ⟨hv,hgd⟩:=zbu7 (C:=C) p.xs hx
 have hgo:zR5 st2 p.g=zR5 st p.g:=by
  cases hg:p.g with
  | none=>rfl
  | some q=>simp only [zR5]; rw [hr q.1 (dA _ (by simp [hg]))]
 unfold aop at h ⊢
 rw [hgo,← hv,hn,zcH2 hm hn,← hgd]
 cases hg:zR5 st p.g with
 | none=>simp [hg] at h
 | some g =>
  simp only [hg] at h ⊢
  cases hp:p.po <;> simp only [hp] at h ⊢
  case pick =>
   split at h
   ·rename_i c x y hxs
    simp only [hxs] at hx ⊢
    have e1:=zaE4 (x:=c) C.G (f:=st.slot) (g:=st2.slot) fun t ht=>hx t ((zR6 _ _ _).2 (.inl ht))
    have e2:=zaE4 (x:=x) C.G (f:=st.slot) (g:=st2.slot) fun t ht=>hx t ((zR6 _ _ _).2 (.inr ((zR6 _ _ _).2 (.inl ht))))
    have e3:=zaE4 (x:=y) C.G (f:=st.slot) (g:=st2.slot) fun t ht=>hx t ((zR6 _ _ _).2 (.inr ((zR6 _ _ _).2 (.inr ht))))
    rw [← e1,← e2,← e3]
    split at h
    ·exact ⟨h.1,zaX1 h.2 hm hn⟩
    ·exact h.elim
   ·exact h.elim
  case call f =>
   obtain ⟨r,h1,h2,h3⟩:=h
   exact ⟨r,h1,h2,zaX1 h3 hm hn⟩
  case callv =>
   split at h
   ·obtain ⟨r,h1,h2,h3⟩:=h
    exact ⟨r,h1,h2,zaX1 h3 hm hn⟩
   ·exact h.elim
  case callm f =>
   obtain ⟨l,as,ms,k,r,ms',k',h1,h2,h3,h4,h5⟩:=h
   exact ⟨l,as,ms,k,r,ms',k',h1,h2,h3,h4,zaX1 h5 hm hn⟩
  case callvm =>
   split at h
   ·obtain ⟨l,as,ms,k,r,ms',k',h1,h2,h3,h4,h5⟩:=h
    exact ⟨l,as,ms,k,r,ms',k',h1,h2,h3,h4,zaX1 h5 hm hn⟩
   ·exact h.elim
  all_goals
   split at h
   ·exact ⟨h.1,h.2.1,zaX1 h.2.2 hm hn⟩
   ·exact ⟨h.1,h.2.1,zaX1 h.2.2 hm hn⟩
def SL (ps:List POp) (vs:Nat→A) (st:St) (f:Nat→Bool):Nat→St
 | 0=>st
 | n+1=>match ps[n]? with
  | some p=>if f n then (SL ps vs st f n).app p.dst (vs n) [] else SL ps vs st f n
  | none=>SL ps vs st f n
theorem zcg8 (ps:List POp) (vs:Nat→A) (st:St) (f:Nat→Bool):∀ n,(SL ps vs st f n).mem=st.mem∧(SL ps vs st f n).nx=st.nx
 | 0=>⟨rfl,rfl⟩
 | n+1=>by
  have:=zcg8 ps vs st f n
  simp only [SL]
  split
  ·split
   ·exact this
   ·exact this
  ·exact this
theorem zaE5 (st:St) (d:Option Nat) (v:A) (t:Nat):(st.app d v []).slot t=if d=some t then v else st.slot t:=by
 rw [zcn2]
 cases d with
 | none=>simp [setF]
 | some d =>
  by_cases h:t=d
  ·subst h; simp [setF]
  ·simp [setF,h,Ne.symm h,show ¬ d=t from fun e=>h e.symm]
theorem zcY1 {ps:List POp} {vs:Nat→A} {st:St} {f:Nat→Bool} {j:Nat} {p:POp} (hp:ps[j]? = some p) (hf:f j=false) (f':Nat→Bool) (hj:f' j=true) (hf':∀ i,i≠j→f' i=f i)
  (hc:∀ i q,j < i→ps[i]? = some q→f i=true→conf p q=false):∀ n t,(SL ps vs st f' n).slot t=if j < n∧p.dst=some t then vs j else (SL ps vs st f n).slot t
 | 0,t=>by simp [SL]
 | n+1,t=>by
  have ih:=zcY1 (vs:=vs) (st:=st) hp hf f' hj hf' hc n
  by_cases hn:n=j
  ·subst hn
   simp only [SL,hp,hj,hf,cB,bS,cA,zaE5]
   by_cases hd:p.dst=some t
   ·simp [hd]
   ·simp only [hd,cA,and_false]
    have:=ih t
    simpa [hd] using this
  ·have hlt:j < n+1 ↔ j < n:=by omega
   simp only [SL,hf' n hn,hlt]
   cases hq:ps[n]? with
   | none=>simpa using ih t
   | some q =>
    simp only []
    split
    ·rename_i hfn
     rw [zaE5,zaE5,ih t]
     by_cases hd:q.dst=some t
     ·simp only [hd,cB]
      by_cases hjn:j < n
      ·have:=hc n q hjn hq hfn
       unfold conf at this
       by_cases hpd:p.dst=some t
       ·simp [hpd,hd] at this
       ·simp [hpd]
      ·simp [hjn]
     ·simp [hd]
    ·exact ih t
theorem zcH3 {ps:List POp} {vs:Nat→A} {st:St} {f:Nat→Bool} {j t:Nat} (h1:∀ i q,i < j→ps[i]? = some q→q.dst=some t→f i=true) (h2:∀ i q,j≤i→ps[i]? = some q→q.dst=some t→f i=false) :
  ∀ n,(SL ps vs st f n).slot t=(SL ps vs st (fun _=>true) (min n j)).slot t
 | 0=>by simp [SL]
 | n+1=>by
  have ih:=zcH3 (vs:=vs) (st:=st) h1 h2 n
  by_cases hn:n < j
  ·rw [show min (n+1) j=n+1 by omega]
   rw [show min n j=n by omega] at ih
   simp only [SL]
   cases hq:ps[n]? with
   | none=>exact ih
   | some q =>
    simp only [cB]
    by_cases hd:q.dst=some t
    ·rw [h1 n q hn hq hd]; simp [zaE5,hd]
    ·rw [zaE5,bU hd]
     split
     ·rw [zaE5,bU hd]; exact ih
     ·exact ih
  ·rw [show min (n+1) j=j by omega]
   rw [show min n j=j by omega] at ih
   simp only [SL]
   cases hq:ps[n]? with
   | none=>exact ih
   | some q =>
    simp only []
    by_cases hd:q.dst=some t
    ·rw [h2 n q (by omega) hq hd]; simpa using ih
    ·split
     ·rw [zaE5,bU hd]; exact ih
     ·exact ih
theorem zbM9 {K:St→Prop}:∀ (ps:List POp) (st:St),zba6 C ps st K→∃ vs:Nat→A,K (SL ps vs st (fun _=>true) ps.length) ∧
  ∀ j p,ps[j]? = some p→aop C p (SL ps vs st (fun _=>true) j) (fun s=>s=(SL ps vs st (fun _=>true) j).app p.dst (vs j) [])
 | [],st,h=>⟨fun _=>.any,h,fun j p hp=>by simp at hp⟩
 | p :: ps,st,h=>by
  obtain ⟨v,mw,⟨⟨h1,h2⟩,h3⟩,h4⟩:=zdn0 h
  have e:st.app p.dst v mw=st.app p.dst v []:=by
   simp only [St.app,St.mk.injEq] at h1 h2 ⊢
   exact ⟨trivial,h1,h2⟩
  rw [e] at h3 h4
  obtain ⟨vs,h5,h6⟩:=zbM9 ps _ h3
  have sh:∀ n,SL (p :: ps) (fun i=>match i with|0=>v|i+1=>vs i) st (fun _=>true) (n+1)=SL ps vs (st.app p.dst v []) (fun _=>true) n:=by
   intro n
   induction n with
   | zero=>simp [SL]
   | succ n ih=>rw [SL,ih]; simp only [List.getElem?_cons_succ]; rfl
  refine ⟨fun i=>match i with|0=>v|i+1=>vs i,?_,fun j q hq=>?_⟩
  ·rw [List.length_cons,sh]; exact h5
  ·cases j with
   | zero=>simp at hq; subst hq; exact h4
   | succ j=>rw [sh]; exact h6 j q (by simpa using hq)
theorem zaS6 {D:Nat→Prop}:∀ (es acc:List (List Nat)),(∀ j e,es[j]? = some e→D (acc.length+j)→∀ i ∈ e,D i)→(∀ j,D j→∀ i ∈ acc.getD j [],D i) →
  ∀ j,D j→∀ i ∈ (ancs acc es).getD j [],D i
 | [],acc,_,h=>h
 | e :: es,acc,he,h=>by
  unfold ancs
  refine zaS6 es _ (fun j e' hj hD=>he (j+1) e' (by simpa using hj) (by rw [bX] at hD; simp only [List.length_cons,List.length_nil] at hD; rwa [show acc.length+(j+1)=acc.length+(0+1)+j by omega])) ?_
  intro j hD i hi
  by_cases hj:j < acc.length
  ·refine h j hD i ?_
   rw [bW,dJ hj] at hi
   rwa [bW]
  ·by_cases hj2:j=acc.length
   ·subst hj2
    have he0:=he 0 e rfl (by simpa using hD)
    rw [bW,fA (dD _)] at hi
    simp only [gM,List.getElem?_cons_zero,Option.getD_some,cI,eU] at hi
    rcases hi with hi|⟨k,hk,hi⟩
    ·exact he0 i hi
    ·exact h k (he0 k hk) i hi
   ·rw [bW,gJ (by simp; omega)] at hi
    simp at hi
theorem zaO8 {ps:List POp} {an:List (List Nat)} (h:zbz0 ps an=true) {i j:Nat} {p q:POp} (hij:i < j) (hp:ps[i]? = some p) (hq:ps[j]? = some q) (hc:conf p q=true):i ∈ an.getD j []:=by
 unfold zbz0 at h
 have h1:=eJ.1 h j (eG.2 (cD.1 hq).1)
 have h2:=eJ.1 h1 i (eG.2 hij)
 simp only [hp,hq,hc,cK,dL] at h2
 simpa using h2
theorem zbe8:∀ (os:List Oper) (n:Nat),POp.sortOk os n=true→∀ j o,os[j]? = some o→∀ i ∈ zF1 o,i < n+j
 | [],_,_,j,o,h=>by simp at h
 | x :: os,n,h,j,o,ho=>by
  simp only [POp.sortOk,bT] at h
  cases j with
  | zero =>
   simp at ho; subst ho
   intro i hi
   simp only [zF1,cQ,fH] at hi
   obtain ⟨e,⟨he,hb⟩,rfl⟩:=hi
   have:=Array.all_eq_true_iff_forall_mem.1 h.1 e (by simpa using he)
   simpa [hb] using this
  | succ j =>
   intro i hi
   have:=zbe8 os (n+1) h.2 j o (by simpa using ho) i hi
   omega
def left (f:Nat→Bool):Nat→Nat
 | 0=>0
 | n+1=>left f n+if f n then 0 else 1
theorem zbN0 {f f':Nat→Bool} {j:Nat} (hj:f j=false) (hj':f' j=true) (h:∀ i,i≠j→f' i=f i):∀ n,left f n=left f' n+if j < n then 1 else 0
 | 0=>rfl
 | n+1=>by
  have ih:=zbN0 hj hj' h n
  simp only [left]
  by_cases hn:n=j
  ·subst hn; simp [hj,hj'] ; simp at ih; omega
  ·rw [h n hn,ih]
   have:j < n+1 ↔ j < n:=by omega
   simp only [this]; omega
theorem zbz3 {f:Nat→Bool}:∀ n,left f n=0→∀ i,i < n→f i=true
 | n+1,h,i,hi=>by
  simp only [left] at h
  by_cases hn:i=n
  ·subst hn
   cases hf:f i with
   | true=>rfl
   | false=>simp [hf] at h
  ·exact zbz3 n (by omega) i (by omega)
theorem zaX2 {p q:POp} {t:Nat} (h:p.dst=some t) (hq:t ∈ q.rds∨q.dst=some t):conf p q=true∧(t ∈ q.rds→conf q p=true):=by
 unfold conf
 rw [h]
 refine ⟨?_,fun hr=>?_⟩
 ·rcases hq with hq|hq <;> simp [hq]
 ·simp [hr]
end
section
variable {C:Cx} {E:Env}
theorem Sat.drawn {s:S} {a:Act} {w:World} {n:Nat} (h:Sat E s a w) (hn:w.drawn≤n):Sat E s a { w with drawn:=n }:=by
  obtain ⟨W,μ,hs⟩:=h
  have hk:Keeps (fun _=>False) w { w with drawn:=n }:=⟨rfl,rfl,rfl,hn,dD _,fun _ _ _=>rfl⟩
  exact ⟨W,μ,hs.step (Step.quiet hk hs.mem hs.inj hs.wlt) (d:=none) (v:=undef) (av:=.any) (fun x hx=>by cases hx) trivial⟩
theorem ROk.at {ops:Array Oper} {N:Nat}:∀ {ps:List POp} {n j:Nat} {o:Oper},ROk C N ops n ps→ops[n+j]? = some o→∃ p,ps[j]? = some p∧POk C N ops o p
  | [],n,j,o,h,ho=>by
    have h:n=ops.size:=h
    have:=(dH.1 ho).1
    omega
  | p :: ps,n,0,o,h,ho=>by
    obtain ⟨⟨o',ho',hp⟩,_⟩:=h
    rw [Nat.add_zero,ho'] at ho; cases ho
    exact ⟨p,rfl,hp⟩
  | p :: ps,n,j+1,o,h,ho=>by
    obtain ⟨q,hq,hp⟩:=ROk.at (j:=j) h.2 (by rw [← ho]; congr 1; omega)
    exact ⟨q,by simpa using hq,hp⟩
theorem zbN1 {ps:List POp} {vs:Nat→A} {st:St} {f f':Nat→Bool}:∀ n,(∀ i,i < n→f i=f' i)→SL ps vs st f n=SL ps vs st f' n
  | 0,_=>rfl
  | n+1,h=>by
    have ih:=zbN1 (ps:=ps) (vs:=vs) (st:=st) n fun i hi=>h i (by omega)
    simp only [SL,ih,h n (by omega)]
theorem zcM7 {st st2:St} (hs:∀ t,st2.slot t=st.slot t) (hm:st2.mem=st.mem) (hn:st2.nx=st.nx):st2.toS=st.toS:=by
  unfold St.toS
  rw [zcH2 hm hn,show st2.slot=st.slot from funext hs]
theorem zcM8 {os:Array Oper} {ps:List POp} {st:St} {vs:Nat→A} {K:St→Prop} {Q:Exit→Act→World→Prop} (hG:E.G=C.G) (hr:ROk C E.N os 0 ps) (hso:POp.sortOk os.toList 0=true)
    (hco:zbz0 ps (ancs [] (os.toList.map zF1))=true) (hK:K (SL ps vs st (fun _=>true) ps.length))
    (hv:∀ j p,ps[j]? = some p→aop C p (SL ps vs st (fun _=>true) j) (fun s=>s=(SL ps vs st (fun _=>true) j).app p.dst (vs j) []))
    (hQ:∀ st' a' w',K st'→Sat E st'.toS a' w'→Q .normal a' w') :
    ∀ (fuel:Nat) (listed:Array Bool) (a:Act) (w:World),listed.size=os.size→Sat E (SL ps vs st (fun i=>listed.getD i false) ps.length).toS a w →
      (∀ j o,os[j]? = some o→listed.getD j false=true→∀ i ∈ zF1 o,listed.getD i false=true)→left (fun i=>listed.getD i false) os.size≤fuel →
      wpAny C.P .any os Q fuel listed a w:=by
  have hlen:ps.length=os.size:=by have:=hr.size; omega
  have hdone:∀ (listed:Array Bool) (a:Act) (w:World),Sat E (SL ps vs st (fun i=>listed.getD i false) ps.length).toS a w→(∀ i,i < os.size→listed.getD i false=true)→Q .normal a w:=by
    intro listed a w hs hall
    refine hQ _ a w hK ?_
    rw [zbN1 (f:=fun _=>true) (f':=fun i=>listed.getD i false) ps.length fun i hi=>(hall i (by omega)).symm]
    exact hs
  have hready:∀ (listed:Array Bool),listed.size=os.size→Region.ready .any os listed=[]→∀ i,i < os.size→listed.getD i false=true:=by
    intro listed hsz hr0 i
    induction i using Nat.strongRecOn with
    | _ i ih =>
      intro hi
      cases hl:listed.getD i false with
      | true=>rfl
      | false =>
        have:i ∈ Region.ready .any os listed:=by
          rw [mem_ready]
          refine ⟨?_,os[i],by simp [hi],fun e he hb=>?_⟩
          · have h1:i < listed.size:=by omega
            simp only [Array.getD,h1,jS] at hl ⊢; exact hl
          · have h2:e.on ∈ zF1 os[i]:=by
              simp only [zF1,cQ,fH]
              exact ⟨e,⟨by simpa using he,hb⟩,rfl⟩
            have h3:=zbe8 os.toList 0 hso i os[i] (by simp [hi]) e.on h2
            exact ih e.on (by omega) (by omega)
        rw [hr0] at this; cases this
  intro fuel
  induction fuel with
  | zero =>
    intro listed a w hsz hs hcl hle
    have hall:=zbz3 (f:=fun i=>listed.getD i false) os.size (by omega)
    refine ⟨?_,hdone listed a w hs hall⟩
    cases hrd:Region.ready .any os listed with
    | nil=>rfl
    | cons i rs =>
      have:i ∈ Region.ready .any os listed:=by rw [hrd]; simp
      rw [mem_ready] at this
      obtain ⟨h1,o,ho,_⟩:=this
      have hi:=(dH.1 ho).1
      have:=hall i hi
      have h2:i < listed.size:=by omega
      simp only [Array.getD,h2,jS] at h1 this
      rw [this] at h1; cases h1
  | succ fuel ih =>
    intro listed a w hsz hs hcl hle
    refine ⟨fun hr0=>hdone listed a w hs (hready listed hsz hr0),fun i hi=>?_⟩
    rw [mem_ready] at hi
    obtain ⟨hl,o,ho,hed⟩:=hi
    have hlt:=(dH.1 ho).1
    have hlt2:i < listed.size:=by omega
    have hl:listed.getD i false=false:=by
      simp only [Array.getD,hlt2,jS] at hl ⊢; exact hl
    obtain ⟨p,hp,hpo⟩:=hr.at (j:=i) (by rw [dR]; exact ho)
    have hedge:∀ k ∈ zF1 o,listed.getD k false=true:=by
      intro k hk
      simp only [zF1,cQ,fH] at hk
      obtain ⟨e,⟨he,hb⟩,rfl⟩:=hk
      exact hed e (by simpa using he) hb
    have hset:(listed.setIfInBounds i true).getD i false=true:=by simp [Array.getD,hlt2]
    have hsetne:∀ k,k≠i→(listed.setIfInBounds i true).getD k false=listed.getD k false:=fun k hk=>getD_set_ne false (Ne.symm hk)
    have hcl':∀ j o,os[j]? = some o→(listed.setIfInBounds i true).getD j false=true→∀ k ∈ zF1 o,(listed.setIfInBounds i true).getD k false=true:=by
      intro j o' ho' hj k hk
      by_cases hji:j=i
      · subst hji
        rw [ho] at ho'; cases ho'
        exact getD_set_true (hedge k hk)
      · rw [hsetne j hji] at hj
        exact getD_set_true (hcl j o' ho' hj k hk)
    have hanc:∀ j,(listed.setIfInBounds i true).getD j false=true→∀ k ∈ (ancs [] (os.toList.map zF1)).getD j [],(listed.setIfInBounds i true).getD k false=true :=
      zaS6 (D:=fun j=>(listed.setIfInBounds i true).getD j false=true) _ [] (fun j e he hD=>by
        simp only [cO,cG] at he
        obtain ⟨o',ho',rfl⟩:=he
        exact hcl' j o' (by simpa using ho') (by simpa using hD)) (fun j _ k hk=>by simp at hk)
    have hanc0:∀ j,listed.getD j false=true→∀ k ∈ (ancs [] (os.toList.map zF1)).getD j [],listed.getD k false=true :=
      zaS6 (D:=fun j=>listed.getD j false=true) _ [] (fun j e he hD=>by
        simp only [cO,cG] at he
        obtain ⟨o',ho',rfl⟩:=he
        exact hcl j o' (by simpa using ho') (by simpa using hD)) (fun j _ k hk=>by simp at hk)
    have hbef:∀ k q,k < i→ps[k]? = some q→conf q p=true→listed.getD k false=true:=by
      intro k q hk hq hc
      have:=hanc i hset k (zaO8 hco hk hq hp hc)
      rwa [hsetne k (by omega)] at this
    have haft:∀ k q,i < k→ps[k]? = some q→conf p q=true→listed.getD k false=false:=by
      intro k q hk hq hc
      cases hlk:listed.getD k false with
      | false=>rfl
      | true =>
        have:=hanc0 k hlk i (zaO8 hco hk hp hq hc)
        rw [hl] at this; cases this
    have hmem:=zcg8 ps vs st (fun k=>listed.getD k false) ps.length
    have hmem2:=zcg8 ps vs st (fun _=>true) i
    have hil:i < ps.length:=(cD.1 hp).1
    have haop:aop C p (SL ps vs st (fun k=>listed.getD k false) ps.length) (fun s=>s=(SL ps vs st (fun k=>listed.getD k false) ps.length).app p.dst (vs i) []):=by
      refine zcM6 (st:=SL ps vs st (fun _=>true) i) (by rw [hmem.1,hmem2.1]) (by rw [hmem.2,hmem2.2]) (fun t ht=>?_) (hv i p hp)
      rw [zcH3 (j:=i) (t:=t) (fun k q hk hq hd=>hbef k q hk hq (zaX2 hd (.inl ht)).1) (fun k q hk hq hd=>?_) ps.length,iT (iN hil)]
      by_cases hki:k=i
      · subst hki; exact hl
      · exact haft k q (by omega) hq ((zaX2 hd (.inl ht)).2 ht)
    obtain ⟨W,μ,hs⟩:=hs
    have key:=zcb4 hs hG hpo haop (Q:=Q) (k:=wpAny C.P .any os Q fuel (listed.setIfInBounds i true)) (fun st' a' w' hst hs'=>by
      subst hst
      refine ih _ a' w' (by simpa using hsz) ?_ hcl' ?_
      · have e:(SL ps vs st (fun k=>(listed.setIfInBounds i true).getD k false) ps.length).toS=((SL ps vs st (fun k=>listed.getD k false) ps.length).app p.dst (vs i) []).toS:=by
          have hm3:=zcg8 ps vs st (fun k=>(listed.setIfInBounds i true).getD k false) ps.length
          refine zcM7 (fun t=>?_) ?_ ?_
          · rw [zcY1 (f:=fun k=>listed.getD k false) hp hl (fun k=>(listed.setIfInBounds i true).getD k false) hset hsetne (fun k q hk hq hfk=>?_),zaE5]
            · simp only [hil,gD]
            · cases hc:conf p q with
              | false=>rfl
              | true=>have:=haft k q hk hq hc; exact absurd (this.symm.trans hfk) (by simp)
          · rw [hm3.1]; exact hmem.1.symm
          · rw [hm3.2]; exact hmem.2.symm
        rw [e]; exact hs'
      · have:=zbN0 (f:=fun k=>listed.getD k false) (f':=fun k=>(listed.setIfInBounds i true).getD k false) (j:=i) hl hset hsetne os.size
        rw [bV hlt] at this
        omega)
    simp only [wpOp,ho]
    split at key
    · rename_i hw; rw [bV hw]; exact .inl key
    · rename_i hw; rw [bU hw]; exact key
theorem zdn1 {Q:Exit→St→Prop} {st:St} {dr:List Nat} {ops:List POp} (hm:C.P.follows .mixedOrders=true) (hG:E.G=C.G) (h:zba6 C ops st fun s=>Q .normal (s.drop dr)):AW C E (.regd dr ops) Q st:=fun code hc a w hs=>by
  cases code with
  | region id os d =>
   cases d with
   | false=>simp [chkC] at hc
   | true =>
    simp only [chkC,bT,zcG8] at hc
    obtain ⟨hc1,hc2,hc3⟩:=hc
    have hr:ROk C E.N os 0 ops:=by
      obtain ⟨P,G⟩:=C
      exact zbj8 os.toList ops 0 hc1 (by simp) (by simp)
    obtain ⟨vs,hK,hv⟩:=zbM9 ops st h
    refine wp_region_any hm ?_
    refine zcM8 (st:=st) (vs:=vs) hG hr hc2 hc3 hK hv (fun st' a' w' hQ hs'=>⟨_,hQ,hs'.drop⟩) os.size _ a _ (by simp) ?_ (fun j o ho hj=>?_) ?_
    · have e:SL ops vs st (fun i=>(Array.replicate os.size false).getD i false) ops.length=SL ops vs st (fun _=>false) ops.length:=zbN1 _ fun i _=>by simp [Array.getD]
      have e2:∀ n,SL ops vs st (fun _=>false) n=st:=fun n=>by
        induction n with
        | zero=>rfl
        | succ n ih=>simp only [SL,ih,bS,cA]; split <;> rfl
      rw [e,e2]
      exact hs.drawn (jX _)
    · simp [Array.getD] at hj
    · have:∀ n,left (fun i=>(Array.replicate os.size false).getD i false) n≤n:=fun n=>by
        induction n with
        | zero=>exact dD _
        | succ n ih=>simp only [left]; split <;> omega
      exact this _
  | _=>simp [chkC] at hc
end
theorem zau5 {a b:ByteArray}:a.toList=b.toList ↔ a=b:=by
 constructor
 ·intro h
  rw [ByteArray.toList_eq,ByteArray.toList_eq] at h
  cases a; cases b
  simp only [ByteArray.mk.injEq]
  exact Array.toList_inj.1 (by simpa using h)
 ·intro h; rw [h]
def eI (k:IntKind) (x:Int):List A:=[A.int k x]
def eB (x:Bool):List A:=[A.bool x]
def eS (x:ByteArray):List A:=[A.str x]
def eL {α:Type} (f:α→List A) (l:List α):List A:=[A.sl (l.map f)]
@[go_sem] theorem zdE5 (a:A):sub [a] 0 1=[a]:=rfl
@[go_sem] theorem zdE6 (a b:A):upd [a] 0 [b]=[b]:=rfl
@[go_sem] theorem zdC4 {α β:Type} (f:α→β) (l:List α) (n:Nat):(l.map f).take n=(l.take n).map f:=List.map_take.symm
@[go_sem] theorem zdC5 {α β:Type} (f:α→β) (l:List α) (n:Nat):(l.map f).drop n=(l.drop n).map f:=List.map_drop.symm
@[go_sem] theorem zdu7 {α β:Type} (f:α→β) (l m:List α):l.map f++m.map f=(l++m).map f:=fC.symm
attribute [go_sem] cX
@[go_sem] theorem zdj2 (c:List A) (cs:List (List A)):zaq5 (c :: cs) ↔ zn5 c=true∧zaq5 cs:=by
 constructor
 ·intro h
  refine ⟨?_,fun d hd=>h d (.tail _ hd)⟩
  have:=h c (.head _)
  clear h
  induction c with
  | nil=>rfl
  | cons a c ih=>simp only [zn5,bT]; exact ⟨this a (.head _),ih fun b hb=>this b (.tail _ hb)⟩
 ·rintro ⟨h1,h2⟩ d hd
  rcases cF.1 hd with rfl|hd
  ·exact zan2 h1
  ·exact h2 d hd
@[go_sem] theorem zdA0:maxLen=9223372036854775807:=rfl
@[go_sem] theorem eI.getD (k:IntKind) (l:List Int) (i:Nat):(l.map (eI k)).getD i [A.int k 0]=[A.int k (l.getD i 0)]:=by
 simp only [bW,cO]; cases l[i]? <;> rfl
@[go_sem] theorem eI.snoc (k:IntKind) (l:List Int) (x:Int):l.map (eI k)++[[A.int k x]]=(l++[x]).map (eI k):=by simp [eI]
@[go_sem] theorem eI.allLen (k:IntKind) (l:List Int):zP6 1 (l.map (eI k)):=by intro c hc; obtain ⟨x,_,rfl⟩:=cQ.1 hc; rfl
@[go_sem] theorem eI.pureRows (k:IntKind) (l:List Int):zaq5 (l.map (eI k)):=by intro c hc; obtain ⟨x,_,rfl⟩:=cQ.1 hc; intro a ha; simp [eI] at ha; subst ha; rfl
@[go_sem] theorem eI.pureEs (k:IntKind) (l:List Int):pureEs (l.map (eI k))=true:=by induction l with
 | nil=>rfl
 | cons a l ih=>simpa [Ab.pureEs,zn5,A.pure1,eI] using ih
@[go_sem] theorem eB.getD (l:List Bool) (i:Nat):(l.map eB).getD i [A.bool false]=[A.bool (l.getD i false)]:=by
 simp only [bW,cO]; cases l[i]? <;> rfl
@[go_sem] theorem eB.snoc (l:List Bool) (x:Bool):l.map eB++[[A.bool x]]=(l++[x]).map eB:=by simp [eB]
@[go_sem] theorem eB.set (l:List Bool) (i:Nat) (x:Bool):(l.map eB).set i [A.bool x]=(l.set i x).map eB:=by simp [jU,eB]
@[go_sem] theorem eB.rep (n:Nat) (x:Bool):List.replicate n [A.bool x]=(List.replicate n x).map eB:=by simp [eB]
@[go_sem] theorem eB.pureRows (l:List Bool):zaq5 (l.map eB):=by intro c hc; obtain ⟨x,_,rfl⟩:=cQ.1 hc; intro a ha; simp [eB] at ha; subst ha; rfl
@[go_sem] theorem eB.pureEs (l:List Bool):pureEs (l.map eB)=true:=by induction l with
 | nil=>rfl
 | cons a l ih=>simpa [Ab.pureEs,zn5,A.pure1,eB] using ih
@[go_sem] theorem eS.getD (l:List ByteArray) (i:Nat):(l.map eS).getD i [A.str ⟨#[]⟩]=[A.str (l.getD i ⟨#[]⟩)]:=by
 simp only [bW,cO]; cases l[i]? <;> rfl
@[go_sem] theorem eS.snoc (l:List ByteArray) (x:ByteArray):l.map eS++[[A.str x]]=(l++[x]).map eS:=by simp [eS]
@[go_sem] theorem eS.set (l:List ByteArray) (i:Nat) (x:ByteArray):(l.map eS).set i [A.str x]=(l.set i x).map eS:=by simp [jU,eS]
@[go_sem] theorem eS.pureRows (l:List ByteArray):zaq5 (l.map eS):=by intro c hc; obtain ⟨x,_,rfl⟩:=cQ.1 hc; intro a ha; simp [eS] at ha; subst ha; rfl
@[go_sem] theorem eS.pureEs (l:List ByteArray):pureEs (l.map eS)=true:=by induction l with
 | nil=>rfl
 | cons a l ih=>simpa [Ab.pureEs,zn5,A.pure1,eS] using ih
@[go_sem] theorem eL.getD {α:Type} (f:α→List A) (l:List (List α)) (i:Nat):(l.map (eL f)).getD i [A.sl (([]:List α).map f)]=[A.sl ((l.getD i []).map f)]:=by
 simp only [bW,cO]; cases l[i]? <;> rfl
@[go_sem] theorem eL.getD0 {α:Type} (f:α→List A) (l:List (List α)) (i:Nat):(l.map (eL f)).getD i [A.sl []]=[A.sl ((l.getD i []).map f)]:=eL.getD f l i
@[ext] structure Arr (α:Type) (n:Nat) where
 l:List α
 h:l.length=n
instance {α:Type} [DecidableEq α] {n:Nat}:DecidableEq (Arr α n):=fun a b=>decidable_of_iff (a.l=b.l) (by rw [Arr.ext_iff])
def Arr.get {α:Type} {n:Nat} (a:Arr α n) (i:Nat) (z:α):α:=a.l.getD (zL7 i n) z
def Arr.put {α:Type} {n:Nat} (a:Arr α n) (i:Nat) (x:α):Arr α n:=⟨a.l.set (zL7 i n) x,by simp [a.h]⟩
def Arr.rep {α:Type} (n:Nat) (x:α):Arr α n:=⟨List.replicate n x,by simp⟩
def Arr.enc {α:Type} {n:Nat} (f:α→List A) (a:Arr α n):List A:=(a.l.map f).flatten
theorem zco2 {α:Type} (f:α→List A) (sz:Nat) (hf:∀ x,(f x).length=sz):∀ l:List α,(l.map f).flatten.length=l.length * sz
 | []=>by simp
 | a :: l=>by simp only [dZ,List.flatten_cons,bX,hf,zco2 f sz hf l,List.length_cons]; rw [dM]; omega
theorem zcH4 {α:Type} (f:α→List A) (sz:Nat) (hf:∀ x,(f x).length=sz) (z:α):∀ (l:List α) (i:Nat),i < l.length→sub (l.map f).flatten (i * sz) sz=f (l.getD i z)
 | [],i,h=>by simp at h
 | a :: l,0,_=>by simp [sub,hf a]
 | a :: l,i+1,h=>by
  have:=zcH4 f sz hf z l i (by simpa using h)
  simp only [sub,dZ,List.flatten_cons,gE] at this ⊢
  rw [← this,jL,gF (by rw [hf,dM]; omega),hf,List.nil_append]
  congr 2
  rw [dM]; omega
theorem zco3 {α:Type} (f:α→List A) (sz:Nat) (hf:∀ x,(f x).length=sz) (x:α):∀ (l:List α) (i:Nat),i < l.length→upd (l.map f).flatten (i * sz) (f x)=((l.set i x).map f).flatten
 | [],i,h=>by simp at h
 | a :: l,0,_=>by simp [upd,hf]
 | a :: l,i+1,h=>by
  have:=zco3 f sz hf x l i (by simpa using h)
  simp only [upd,dZ,List.flatten_cons,List.set_cons_succ] at this ⊢
  rw [← this]
  have e:(i+1) * sz=(f a).length+i * sz:=by rw [hf,dM]; omega
  rw [e,List.take_length_add_append,fM,List.drop_length_add_append]
  simp [cE]
@[go_sem] theorem Arr.enc_len {α:Type} {n:Nat} (f:α→List A) (a:Arr α n) (sz:Nat) (hf:∀ x,(f x).length=sz):(Arr.enc f a).length=n * sz:=by
 rw [Arr.enc,zco2 f sz hf,a.h]
theorem zaJ2 {i n:Nat} (h:0 < n):zL7 i n < n:=by unfold zL7; split <;> omega
theorem zan3 {i n:Nat} (h:i < n):zL7 i n=i:=bV h
theorem zcy7 {α:Type} {n sz:Nat} (f:α→List A) (hf:∀ x,(f x).length=sz) (z:α) (a:Arr α (n+1)) (i:Nat):sub (Arr.enc f a) (zL7 i (n+1) * sz) sz=f (a.get i z):=zcH4 f sz hf z a.l _ (by rw [a.h]; exact zaJ2 (by omega))
theorem zcH5 {α:Type} {n sz:Nat} (f:α→List A) (hf:∀ x,(f x).length=sz) (a:Arr α (n+1)) (i:Nat) (x:α):upd (Arr.enc f a) (zL7 i (n+1) * sz) (f x)=Arr.enc f (a.put i x):=zco3 f sz hf x a.l _ (by rw [a.h]; exact zaJ2 (by omega))
attribute [go_sem] zan3
@[go_sem] theorem zdA1 (i n:Nat):(zL7 i (n+1)≤n)=True:=by
 have:=zaJ2 (i:=i) (n:=n+1) (by omega)
 exact eq_true (by omega)
section
variable {n:Nat}
@[go_sem] theorem eI.alen (k:IntKind) (a:Arr Int n):(Arr.enc (eI k) a).length=n:=by rw [Arr.enc_len _ _ 1 (fun _=>rfl),fX]
@[go_sem] theorem eB.alen (a:Arr Bool n):(Arr.enc eB a).length=n:=by rw [Arr.enc_len _ _ 1 (fun _=>rfl),fX]
@[go_sem] theorem eI.aat (k:IntKind) (a:Arr Int (n+1)) (i:Nat):sub (Arr.enc (eI k) a) (zL7 i (n+1)) 1=[A.int k (a.get i 0)]:=by
 have:=zcy7 (eI k) (sz:=1) (fun _=>rfl) 0 a i; rwa [fX] at this
@[go_sem] theorem eI.aput (k:IntKind) (a:Arr Int (n+1)) (i:Nat) (x:Int):upd (Arr.enc (eI k) a) (zL7 i (n+1)) [A.int k x]=Arr.enc (eI k) (a.put i x):=by
 have:=zcH5 (eI k) (sz:=1) (fun _=>rfl) a i x; rwa [fX] at this
@[go_sem] theorem eI.aatc (k:IntKind) (a:Arr Int (n+1)) (i:Nat) (h:i < n+1):sub (Arr.enc (eI k) a) i 1=[A.int k (a.get i 0)]:=by
 have:=eI.aat k a i; rwa [zan3 h] at this
@[go_sem] theorem eI.aputc (k:IntKind) (a:Arr Int (n+1)) (i:Nat) (x:Int) (h:i < n+1):upd (Arr.enc (eI k) a) i [A.int k x]=Arr.enc (eI k) (a.put i x):=by
 have:=eI.aput k a i x; rwa [zan3 h] at this
@[go_sem] theorem eB.aat (a:Arr Bool (n+1)) (i:Nat):sub (Arr.enc eB a) (zL7 i (n+1)) 1=[A.bool (a.get i false)]:=by
 have:=zcy7 eB (sz:=1) (fun _=>rfl) false a i; rwa [fX] at this
@[go_sem] theorem eB.aat2 {m:Nat} (a:Arr (Arr Bool (m+1)) (n+1)) (i j:Nat):sub (Arr.enc (Arr.enc eB) a) (zL7 i (n+1) * (m+1)+zL7 j (m+1)) 1=[A.bool ((a.get i (Arr.rep (m+1) false)).get j false)]:=by
 have h1:=zcy7 (sz:=m+1) (Arr.enc eB) (fun x=>eB.alen x) (Arr.rep (m+1) false) a i
 have h2:=eB.aat (a.get i (Arr.rep (m+1) false)) j
 have hj:=zaJ2 (i:=j) (n:=m+1) (by omega)
 rw [← h2,← h1]
 simp only [sub,List.drop_take,jY,eT]
 congr 1; omega
@[go_sem] theorem zdu8 (i j n m k:Nat) (h:(n+1) * (m+1)≤k+1):(zL7 i (n+1) * (m+1)+zL7 j (m+1)≤k)=True:=by
 have h1:=zaJ2 (i:=i) (n:=n+1) (by omega)
 have h2:=zaJ2 (i:=j) (n:=m+1) (by omega)
 have h3:(zL7 i (n+1)+1) * (m+1)≤(n+1) * (m+1):=dF _ h1
 rw [dM] at h3
 exact eq_true (by omega)
@[go_sem] theorem eB.aput (a:Arr Bool (n+1)) (i:Nat) (x:Bool):upd (Arr.enc eB a) (zL7 i (n+1)) [A.bool x]=Arr.enc eB (a.put i x):=by
 have:=zcH5 eB (sz:=1) (fun _=>rfl) a i x; rwa [fX] at this
@[go_sem] theorem eB.aputc (a:Arr Bool (n+1)) (i:Nat) (x:Bool) (h:i < n+1):upd (Arr.enc eB a) i [A.bool x]=Arr.enc eB (a.put i x):=by
 have:=eB.aput a i x; rwa [zan3 h] at this
@[go_sem] theorem eB.aall (a b:Arr Bool n):upd (Arr.enc eB a) 0 (Arr.enc eB b)=Arr.enc eB b:=by
 simp [upd,eB.alen]
@[go_sem] theorem eI.asub (k:IntKind) (a:Arr Int n):sub (Arr.enc (eI k) a) 0 n=Arr.enc (eI k) a:=by
 rw [sub,fY,cX (by rw [eI.alen]; exact dD _)]
@[go_sem] theorem eB.asub (a:Arr Bool n):sub (Arr.enc eB a) 0 n=Arr.enc eB a:=by
 rw [sub,fY,cX (by rw [eB.alen]; exact dD _)]
theorem zbe9 {α:Type} (f:α→List A) (hf:∀ x,zn5 (f x)=true):∀ l:List α,zn5 (l.map f).flatten=true
 | []=>rfl
 | a :: l=>by
  have h1:=hf a
  have h2:=zbe9 f hf l
  have:∀ x y:List A,zn5 x=true→zn5 y=true→zn5 (x++y)=true:=fun x y hx hy=>by
   induction x with
   | nil=>exact hy
   | cons c x ih=>simp only [zn5,bT,List.cons_append] at hx ⊢; exact ⟨hx.1,ih hx.2⟩
  simpa using this _ _ h1 h2
@[go_sem] theorem eI.apure (k:IntKind) (a:Arr Int n):zn5 (Arr.enc (eI k) a)=true:=zbe9 _ (fun _=>rfl) _
@[go_sem] theorem eB.apure (a:Arr Bool n):zn5 (Arr.enc eB a)=true:=zbe9 _ (fun _=>rfl) _
end
class En (T:Type) where
 sz:Nat
 e:T→List A
 z:T
attribute [go_sem] En.sz En.e En.z
@[go_sem] abbrev bx {T:Type} [En T] (v:T):Row:=⟨false,En.sz T,En.e (En.z:T),[En.e v]⟩
@[go_sem] abbrev sx {T:Type} [En T] (v:List T):Row:=⟨false,En.sz T,En.e (En.z:T),v.map En.e⟩
@[go_sem] abbrev ga {T:Type} [En T] (v:T):A:=.agg (En.e v)
@[go_sem] abbrev la {T:Type} [En T] (v:List T):A:=.sl (v.map En.e)
section
variable {T:Type} {f:T→List A}
@[go_sem] theorem zdu9 {n:Nat} (h:∀ x,(f x).length=n) (l:List T):zP6 n (l.map f):=by intro c hc; obtain ⟨x,_,rfl⟩:=cQ.1 hc; exact h x
@[go_sem] theorem zdn2 (h:∀ x,zn5 (f x)=true) (l:List T):zaq5 (l.map f):=by intro c hc; obtain ⟨x,_,rfl⟩:=cQ.1 hc; exact zan2 (h x)
@[go_sem] theorem zdv0 (h:∀ x,zn5 (f x)=true) (l:List T):pureEs (l.map f)=true:=by induction l with
 | nil=>rfl
 | cons a l ih=>simp [Ab.pureEs,h,ih]
@[go_sem] theorem zdC6 (l:List T) (i:Nat) (z:T):(l.map f).getD i (f z)=f (l.getD i z):=by
 simp only [bW,cO]; cases l[i]? <;> rfl
@[go_sem] theorem zdC7 (l:List T) (x:T):l.map f++[f x]=(l++[x]).map f:=by simp
@[go_sem] theorem zdE7 (l:List T) (i:Nat) (x:T):(l.map f).set i (f x)=(l.set i x).map f:=by simp [jU]
end
@[ext] structure aI where
 name:ByteArray
 (kind aS home:Int)
 deriving DecidableEq
namespace aI
def zero:aI:=⟨⟨#[]⟩,0,0,0⟩
def enc (x:aI):List A:=[A.str x.name,A.int .i64 x.kind,A.int .i64 x.aS,A.int .i64 x.home]
@[go_sem] theorem len (x:aI):(enc x).length=4:=by simp [enc]
instance:En aI:=⟨4,enc,zero⟩
@[go_sem] theorem laws (x:aI) :
 zn5 (enc x)=true ∧
 zu8 (enc x)=true ∧
 zp4 [.s,.i .i64,.i .i64,.i .i64] (enc x)=true ∧
 sub (enc x) 0 4=enc x ∧
 (∀ y,upd (enc x) 0 (enc y)=enc y) ∧
 sub (enc x) 0 1=[A.str x.name] ∧
 sub (enc x) 1 1=[A.int .i64 x.kind] ∧
 sub (enc x) 2 1=[A.int .i64 x.aS] ∧
 sub (enc x) 3 1=[A.int .i64 x.home] ∧
 (∀ v,upd (enc x) 0 ([A.str v])=enc { x with name:=v }) ∧
 (∀ v,upd (enc x) 1 ([A.int .i64 v])=enc { x with kind:=v }) ∧
 (∀ v,upd (enc x) 2 ([A.int .i64 v])=enc { x with aS:=v }) ∧
 (∀ v,upd (enc x) 3 ([A.int .i64 v])=enc { x with home:=v }) ∧
 (∀ (c0 c1 c2 c3:A) (cs:List A),upd (c0 :: c1 :: c2 :: c3 :: cs) 0 (enc x)=A.str x.name :: A.int .i64 x.kind :: A.int .i64 x.aS :: A.int .i64 x.home :: cs) ∧
 (∀ (c0 c1 c2 c3:A),upd (enc x) 0 [c0,c1,c2,c3]=[c0,c1,c2,c3]):=by simp [sub,upd,zn5,A.pure1,zu8,A.scal1,zp4,LK.fits,eE,enc]
@[go_sem] theorem eq (x y:aI):eqA (enc x) (enc y)=decide (x=y):=by
 rw [dN]; simp [eqA,eq1,zau5,fO,enc,aI.ext_iff]
end aI
@[ext] structure aJ where
 (site inc num:Int)
 deriving DecidableEq
namespace aJ
def zero:aJ:=⟨0,0,0⟩
def enc (x:aJ):List A:=[A.int .i64 x.site,A.int .i64 x.inc,A.int .i64 x.num]
@[go_sem] theorem len (x:aJ):(enc x).length=3:=by simp [enc]
instance:En aJ:=⟨3,enc,zero⟩
@[go_sem] theorem laws (x:aJ) :
 zn5 (enc x)=true ∧
 zu8 (enc x)=true ∧
 zp4 [.i .i64,.i .i64,.i .i64] (enc x)=true ∧
 sub (enc x) 0 3=enc x ∧
 (∀ y,upd (enc x) 0 (enc y)=enc y) ∧
 sub (enc x) 0 1=[A.int .i64 x.site] ∧
 sub (enc x) 1 1=[A.int .i64 x.inc] ∧
 sub (enc x) 2 1=[A.int .i64 x.num] ∧
 (∀ v,upd (enc x) 0 ([A.int .i64 v])=enc { x with site:=v }) ∧
 (∀ v,upd (enc x) 1 ([A.int .i64 v])=enc { x with inc:=v }) ∧
 (∀ v,upd (enc x) 2 ([A.int .i64 v])=enc { x with num:=v }) ∧
 (∀ (c0 c1 c2:A) (cs:List A),upd (c0 :: c1 :: c2 :: cs) 0 (enc x)=A.int .i64 x.site :: A.int .i64 x.inc :: A.int .i64 x.num :: cs) ∧
 (∀ (c0 c1 c2:A),upd (enc x) 0 [c0,c1,c2]=[c0,c1,c2]):=by simp [sub,upd,zn5,A.pure1,zu8,A.scal1,zp4,LK.fits,eE,enc]
@[go_sem] theorem eq (x y:aJ):eqA (enc x) (enc y)=decide (x=y):=by
 rw [dN]; simp [eqA,eq1,zau5,fO,enc,aJ.ext_iff]
@[go_sem] theorem rep (n:Nat) (x:aJ):List.replicate n (enc x)=(List.replicate n x).map enc:=by simp
end aJ
@[ext] structure aC where
 (mode aS:Int)
 deriving DecidableEq
namespace aC
def zero:aC:=⟨0,0⟩
def enc (x:aC):List A:=[A.int .i64 x.mode,A.int .i64 x.aS]
@[go_sem] theorem len (x:aC):(enc x).length=2:=by simp [enc]
instance:En aC:=⟨2,enc,zero⟩
@[go_sem] theorem laws (x:aC) :
 zn5 (enc x)=true ∧
 zu8 (enc x)=true ∧
 zp4 [.i .i64,.i .i64] (enc x)=true ∧
 sub (enc x) 0 2=enc x ∧
 (∀ y,upd (enc x) 0 (enc y)=enc y) ∧
 sub (enc x) 0 1=[A.int .i64 x.mode] ∧
 sub (enc x) 1 1=[A.int .i64 x.aS] ∧
 (∀ v,upd (enc x) 0 ([A.int .i64 v])=enc { x with mode:=v }) ∧
 (∀ v,upd (enc x) 1 ([A.int .i64 v])=enc { x with aS:=v }) ∧
 (∀ (c0 c1:A) (cs:List A),upd (c0 :: c1 :: cs) 0 (enc x)=A.int .i64 x.mode :: A.int .i64 x.aS :: cs) ∧
 (∀ (c0 c1:A),upd (enc x) 0 [c0,c1]=[c0,c1]):=by simp [sub,upd,zn5,A.pure1,zu8,A.scal1,zp4,LK.fits,eE,enc]
@[go_sem] theorem eq (x y:aC):eqA (enc x) (enc y)=decide (x=y):=by
 rw [dN]; simp [eqA,eq1,zau5,fO,enc,aC.ext_iff]
end aC
@[ext] structure aU where
 aN:aJ
 aK:aC
 deriving DecidableEq
namespace aU
def zero:aU:=⟨aJ.zero,aC.zero⟩
def enc (x:aU):List A:=aJ.enc x.aN++aC.enc x.aK
@[go_sem] theorem len (x:aU):(enc x).length=5:=by simp [enc,aC.len,aJ.len]
instance:En aU:=⟨5,enc,zero⟩
@[go_sem] theorem laws (x:aU) :
 zn5 (enc x)=true ∧
 zu8 (enc x)=true ∧
 zp4 [.i .i64,.i .i64,.i .i64,.i .i64,.i .i64] (enc x)=true ∧
 sub (enc x) 0 5=enc x ∧
 (∀ y,upd (enc x) 0 (enc y)=enc y) ∧
 sub (enc x) 0 3=aJ.enc x.aN ∧
 sub (enc x) 3 2=aC.enc x.aK ∧
 sub (enc x) 3 1=[A.int .i64 x.aK.mode] ∧
 sub (enc x) 4 1=[A.int .i64 x.aK.aS] ∧
 (∀ v,upd (enc x) 0 (aJ.enc v)=enc { x with aN:=v }) ∧
 (∀ v,upd (enc x) 3 (aC.enc v)=enc { x with aK:=v }) ∧
 (∀ (c0 c1 c2 c3 c4:A) (cs:List A),upd (c0 :: c1 :: c2 :: c3 :: c4 :: cs) 0 (enc x)=A.int .i64 x.aN.site :: A.int .i64 x.aN.inc :: A.int .i64 x.aN.num :: A.int .i64 x.aK.mode :: A.int .i64 x.aK.aS :: cs) ∧
 (∀ (c0 c1 c2 c3 c4:A),upd (enc x) 0 [c0,c1,c2,c3,c4]=[c0,c1,c2,c3,c4]):=by simp [sub,upd,zn5,A.pure1,zu8,A.scal1,zp4,LK.fits,eE,enc,aC.enc,aJ.enc]
@[go_sem] theorem eq (x y:aU):eqA (enc x) (enc y)=decide (x=y):=by
 rw [dN]; simp [eqA,eq1,zau5,fO,enc,aC.enc,aJ.enc,aU.ext_iff,aC.ext_iff,aJ.ext_iff]
@[go_sem] theorem rep (n:Nat) (x:aU):List.replicate n (enc x)=(List.replicate n x).map enc:=by simp
end aU
@[ext] structure aT where
 aN:aJ
 aK:aC
 (bG bQ:Int)
 deriving DecidableEq
namespace aT
def zero:aT:=⟨aJ.zero,aC.zero,0,0⟩
def enc (x:aT):List A:=aJ.enc x.aN++aC.enc x.aK++[A.int .i64 x.bG,A.int .i64 x.bQ]
@[go_sem] theorem len (x:aT):(enc x).length=7:=by simp [enc,aC.len,aJ.len]
instance:En aT:=⟨7,enc,zero⟩
@[go_sem] theorem laws (x:aT) :
 zn5 (enc x)=true ∧
 zu8 (enc x)=true ∧
 zp4 [.i .i64,.i .i64,.i .i64,.i .i64,.i .i64,.i .i64,.i .i64] (enc x)=true ∧
 sub (enc x) 0 7=enc x ∧
 (∀ y,upd (enc x) 0 (enc y)=enc y) ∧
 sub (enc x) 0 3=aJ.enc x.aN ∧
 sub (enc x) 3 2=aC.enc x.aK ∧
 sub (enc x) 3 1=[A.int .i64 x.aK.mode] ∧
 sub (enc x) 4 1=[A.int .i64 x.aK.aS] ∧
 sub (enc x) 5 1=[A.int .i64 x.bG] ∧
 sub (enc x) 6 1=[A.int .i64 x.bQ] ∧
 (∀ v,upd (enc x) 0 (aJ.enc v)=enc { x with aN:=v }) ∧
 (∀ v,upd (enc x) 3 (aC.enc v)=enc { x with aK:=v }) ∧
 (∀ v,upd (enc x) 5 ([A.int .i64 v])=enc { x with bG:=v }) ∧
 (∀ v,upd (enc x) 6 ([A.int .i64 v])=enc { x with bQ:=v }) ∧
 (∀ (c0 c1 c2 c3 c4 c5 c6:A) (cs:List A),upd (c0 :: c1 :: c2 :: c3 :: c4 :: c5 :: c6 :: cs) 0 (enc x)=A.int .i64 x.aN.site :: A.int .i64 x.aN.inc :: A.int .i64 x.aN.num :: A.int .i64 x.aK.mode :: A.int .i64 x.aK.aS :: A.int .i64 x.bG :: A.int .i64 x.bQ :: cs) ∧
 (∀ (c0 c1 c2 c3 c4 c5 c6:A),upd (enc x) 0 [c0,c1,c2,c3,c4,c5,c6]=[c0,c1,c2,c3,c4,c5,c6]):=by simp [sub,upd,zn5,A.pure1,zu8,A.scal1,zp4,LK.fits,eE,enc,aC.enc,aJ.enc]
@[go_sem] theorem eq (x y:aT):eqA (enc x) (enc y)=decide (x=y):=by
 rw [dN]; simp [eqA,eq1,zau5,fO,enc,aC.enc,aJ.enc,aT.ext_iff,aC.ext_iff,aJ.ext_iff]
end aT
@[ext] structure aA where
 aB:aI
 aR:(List aU)
 (aL aV:(List aT))
 gen:Int
namespace aA
def zero:aA:=⟨aI.zero,[],[],[],0⟩
def enc (x:aA):List A:=aI.enc x.aB++[A.sl (x.aR.map aU.enc),A.sl (x.aL.map aT.enc),A.sl (x.aV.map aT.enc),A.int .i64 x.gen]
@[go_sem] theorem len (x:aA):(enc x).length=8:=by simp [enc,aI.len]
instance:En aA:=⟨8,enc,zero⟩
@[go_sem] theorem laws (x:aA) :
 zn5 (enc x)=true ∧
 zu8 (enc x)=false ∧
 sub (enc x) 0 8=enc x ∧
 (∀ y,upd (enc x) 0 (enc y)=enc y) ∧
 sub (enc x) 0 4=aI.enc x.aB ∧
 sub (enc x) 0 1=[A.str x.aB.name] ∧
 sub (enc x) 1 1=[A.int .i64 x.aB.kind] ∧
 sub (enc x) 2 1=[A.int .i64 x.aB.aS] ∧
 sub (enc x) 3 1=[A.int .i64 x.aB.home] ∧
 sub (enc x) 4 1=[A.sl (x.aR.map aU.enc)] ∧
 sub (enc x) 5 1=[A.sl (x.aL.map aT.enc)] ∧
 sub (enc x) 6 1=[A.sl (x.aV.map aT.enc)] ∧
 sub (enc x) 7 1=[A.int .i64 x.gen] ∧
 (∀ v,upd (enc x) 0 (aI.enc v)=enc { x with aB:=v }) ∧
 (∀ v,upd (enc x) 0 ([A.str v])=enc { x with aB:={ x.aB with name:=v } }) ∧
 (∀ v,upd (enc x) 1 ([A.int .i64 v])=enc { x with aB:={ x.aB with kind:=v } }) ∧
 (∀ v,upd (enc x) 2 ([A.int .i64 v])=enc { x with aB:={ x.aB with aS:=v } }) ∧
 (∀ v,upd (enc x) 3 ([A.int .i64 v])=enc { x with aB:={ x.aB with home:=v } }) ∧
 (∀ v,upd (enc x) 4 ([A.sl (v.map aU.enc)])=enc { x with aR:=v }) ∧
 (∀ v,upd (enc x) 5 ([A.sl (v.map aT.enc)])=enc { x with aL:=v }) ∧
 (∀ v,upd (enc x) 6 ([A.sl (v.map aT.enc)])=enc { x with aV:=v }) ∧
 (∀ v,upd (enc x) 7 ([A.int .i64 v])=enc { x with gen:=v }) ∧
 (∀ (c0 c1 c2 c3 c4 c5 c6 c7:A) (cs:List A),upd (c0 :: c1 :: c2 :: c3 :: c4 :: c5 :: c6 :: c7 :: cs) 0 (enc x)=A.str x.aB.name :: A.int .i64 x.aB.kind :: A.int .i64 x.aB.aS :: A.int .i64 x.aB.home :: A.sl (x.aR.map aU.enc) :: A.sl (x.aL.map aT.enc) :: A.sl (x.aV.map aT.enc) :: A.int .i64 x.gen :: cs) ∧
 (∀ (c0 c1 c2 c3 c4 c5 c6 c7:A),upd (enc x) 0 [c0,c1,c2,c3,c4,c5,c6,c7]=[c0,c1,c2,c3,c4,c5,c6,c7]) ∧
 (∀ y lo k,upd (enc x) 4 [.own y lo k]=[A.str x.aB.name,A.int .i64 x.aB.kind,A.int .i64 x.aB.aS,A.int .i64 x.aB.home,.own y lo k,A.sl (x.aL.map aT.enc),A.sl (x.aV.map aT.enc),A.int .i64 x.gen]) ∧
 (∀ y lo k,upd (enc x) 5 [.own y lo k]=[A.str x.aB.name,A.int .i64 x.aB.kind,A.int .i64 x.aB.aS,A.int .i64 x.aB.home,A.sl (x.aR.map aU.enc),.own y lo k,A.sl (x.aV.map aT.enc),A.int .i64 x.gen]) ∧
 (∀ y lo k,upd (enc x) 6 [.own y lo k]=[A.str x.aB.name,A.int .i64 x.aB.kind,A.int .i64 x.aB.aS,A.int .i64 x.aB.home,A.sl (x.aR.map aU.enc),A.sl (x.aL.map aT.enc),.own y lo k,A.int .i64 x.gen]):=by simp [sub,upd,zn5,A.pure1,zu8,A.scal1,zp4,LK.fits,eE,enc,aI.enc]
end aA
@[ext] structure aM where
 name:ByteArray
 aK:aC
 deriving DecidableEq
namespace aM
def zero:aM:=⟨⟨#[]⟩,aC.zero⟩
def enc (x:aM):List A:=[A.str x.name]++aC.enc x.aK
@[go_sem] theorem len (x:aM):(enc x).length=3:=by simp [enc,aC.len]
instance:En aM:=⟨3,enc,zero⟩
@[go_sem] theorem laws (x:aM) :
 zn5 (enc x)=true ∧
 zu8 (enc x)=true ∧
 zp4 [.s,.i .i64,.i .i64] (enc x)=true ∧
 sub (enc x) 0 3=enc x ∧
 (∀ y,upd (enc x) 0 (enc y)=enc y) ∧
 sub (enc x) 0 1=[A.str x.name] ∧
 sub (enc x) 1 2=aC.enc x.aK ∧
 sub (enc x) 1 1=[A.int .i64 x.aK.mode] ∧
 sub (enc x) 2 1=[A.int .i64 x.aK.aS] ∧
 (∀ v,upd (enc x) 0 ([A.str v])=enc { x with name:=v }) ∧
 (∀ v,upd (enc x) 1 (aC.enc v)=enc { x with aK:=v }) ∧
 (∀ (c0 c1 c2:A) (cs:List A),upd (c0 :: c1 :: c2 :: cs) 0 (enc x)=A.str x.name :: A.int .i64 x.aK.mode :: A.int .i64 x.aK.aS :: cs) ∧
 (∀ (c0 c1 c2:A),upd (enc x) 0 [c0,c1,c2]=[c0,c1,c2]):=by simp [sub,upd,zn5,A.pure1,zu8,A.scal1,zp4,LK.fits,eE,enc,aC.enc]
@[go_sem] theorem eq (x y:aM):eqA (enc x) (enc y)=decide (x=y):=by
 rw [dN]; simp [eqA,eq1,zau5,fO,enc,aC.enc,aM.ext_iff,aC.ext_iff]
end aM
@[ext] structure aO where
 k:Int
 bB:aM
 bA:(List aO)
namespace aO
def zero:aO:=⟨0,aM.zero,[]⟩
def enc (x:aO):List A:=[A.int .i64 x.k]++aM.enc x.bB++[A.sl (x.bA.map aO.enc)]
termination_by _root_.SizeOf.sizeOf x
decreasing_by
 rename_i h
 have h2:=List.sizeOf_lt_of_mem h
 cases x
 simp at h2 ⊢
 omega
@[simp] theorem enc_mk (k:Int) (bB:aM) (bA:(List aO)):enc ⟨k,bB,bA⟩=[A.int .i64 k,A.str bB.name,A.int .i64 bB.aK.mode,A.int .i64 bB.aK.aS,A.sl (bA.map aO.enc)]:=by simp [enc,aC.enc,aM.enc]
@[simp] theorem zee7:zero.k=0∧zero.bB.name=⟨#[]⟩∧zero.bB.aK.mode=0∧zero.bB.aK.aS=0∧zero.bA=[]:=by and_intros <;> rfl
theorem enc_cells (x:aO):[A.int .i64 x.k,A.str x.bB.name,A.int .i64 x.bB.aK.mode,A.int .i64 x.bB.aK.aS,A.sl (x.bA.map aO.enc)]=enc x:=by simp [enc,aC.enc,aM.enc]
@[go_sem] theorem len (x:aO):(enc x).length=5:=by simp [enc,aM.len]
instance:En aO:=⟨5,enc,zero⟩
@[go_sem] theorem laws (x:aO) :
 zn5 (enc x)=true ∧
 zu8 (enc x)=false ∧
 sub (enc x) 0 5=enc x ∧
 (∀ y,upd (enc x) 0 (enc y)=enc y) ∧
 sub (enc x) 0 1=[A.int .i64 x.k] ∧
 sub (enc x) 1 3=aM.enc x.bB ∧
 sub (enc x) 1 1=[A.str x.bB.name] ∧
 sub (enc x) 2 2=aC.enc x.bB.aK ∧
 sub (enc x) 2 1=[A.int .i64 x.bB.aK.mode] ∧
 sub (enc x) 3 1=[A.int .i64 x.bB.aK.aS] ∧
 sub (enc x) 4 1=[A.sl (x.bA.map aO.enc)] ∧
 (∀ v,upd (enc x) 0 ([A.int .i64 v])=enc { x with k:=v }) ∧
 (∀ v,upd (enc x) 1 (aM.enc v)=enc { x with bB:=v }) ∧
 (∀ v,upd (enc x) 1 ([A.str v])=enc { x with bB:={ x.bB with name:=v } }) ∧
 (∀ v,upd (enc x) 2 (aC.enc v)=enc { x with bB:={ x.bB with aK:=v } }) ∧
 (∀ v,upd (enc x) 4 ([A.sl (v.map aO.enc)])=enc { x with bA:=v }) ∧
 (∀ (c0 c1 c2 c3 c4:A) (cs:List A),upd (c0 :: c1 :: c2 :: c3 :: c4 :: cs) 0 (enc x)=A.int .i64 x.k :: A.str x.bB.name :: A.int .i64 x.bB.aK.mode :: A.int .i64 x.bB.aK.aS :: A.sl (x.bA.map aO.enc) :: cs) ∧
 (∀ (c0 c1 c2 c3 c4:A),upd (enc x) 0 [c0,c1,c2,c3,c4]=[c0,c1,c2,c3,c4]) ∧
 (∀ y lo k,upd (enc x) 4 [.own y lo k]=[A.int .i64 x.k,A.str x.bB.name,A.int .i64 x.bB.aK.mode,A.int .i64 x.bB.aK.aS,.own y lo k]):=by simp [sub,upd,zn5,A.pure1,zu8,A.scal1,zp4,LK.fits,eE,enc,aC.enc,aM.enc]
end aO
@[ext] structure bC where
 aN:aJ
 bO:aO
 gen:Int
namespace bC
def zero:bC:=⟨aJ.zero,aO.zero,0⟩
def enc (x:bC):List A:=aJ.enc x.aN++aO.enc x.bO++[A.int .i64 x.gen]
@[simp] theorem enc_mk (aN:aJ) (bO:aO) (gen:Int):enc ⟨aN,bO,gen⟩=[A.int .i64 aN.site,A.int .i64 aN.inc,A.int .i64 aN.num,A.int .i64 bO.k,A.str bO.bB.name,A.int .i64 bO.bB.aK.mode,A.int .i64 bO.bB.aK.aS,A.sl (bO.bA.map aO.enc),A.int .i64 gen]:=by simp [enc,aC.enc,aM.enc,aO.enc,aJ.enc]
@[go_sem] theorem len (x:bC):(enc x).length=9:=by simp [enc,aO.len,aJ.len]
instance:En bC:=⟨9,enc,zero⟩
@[go_sem] theorem laws (x:bC) :
 zn5 (enc x)=true ∧
 zu8 (enc x)=false ∧
 sub (enc x) 0 9=enc x ∧
 (∀ y,upd (enc x) 0 (enc y)=enc y) ∧
 sub (enc x) 0 3=aJ.enc x.aN ∧
 sub (enc x) 3 5=aO.enc x.bO ∧
 sub (enc x) 8 1=[A.int .i64 x.gen] ∧
 (∀ v,upd (enc x) 0 (aJ.enc v)=enc { x with aN:=v }) ∧
 (∀ v,upd (enc x) 3 (aO.enc v)=enc { x with bO:=v }) ∧
 (∀ v,upd (enc x) 8 ([A.int .i64 v])=enc { x with gen:=v }) ∧
 (∀ (c0 c1 c2 c3 c4 c5 c6 c7 c8:A),upd (enc x) 0 [c0,c1,c2,c3,c4,c5,c6,c7,c8]=[c0,c1,c2,c3,c4,c5,c6,c7,c8]):=by simp [sub,upd,zn5,A.pure1,zu8,A.scal1,zp4,LK.fits,eE,enc,aC.enc,aM.enc,aO.enc,aJ.enc]
end bC
@[ext] structure aD where
 aF:(List aA)
 aQ:(List bC)
namespace aD
def zero:aD:=⟨[],[]⟩
def enc (x:aD):List A:=[A.sl (x.aF.map aA.enc),A.sl (x.aQ.map bC.enc)]
@[go_sem] theorem len (x:aD):(enc x).length=2:=by simp [enc]
instance:En aD:=⟨2,enc,zero⟩
@[go_sem] theorem laws (x:aD) :
 zn5 (enc x)=true ∧
 zu8 (enc x)=false ∧
 sub (enc x) 0 2=enc x ∧
 (∀ y,upd (enc x) 0 (enc y)=enc y) ∧
 sub (enc x) 0 1=[A.sl (x.aF.map aA.enc)] ∧
 sub (enc x) 1 1=[A.sl (x.aQ.map bC.enc)] ∧
 (∀ v,upd (enc x) 0 ([A.sl (v.map aA.enc)])=enc { x with aF:=v }) ∧
 (∀ v,upd (enc x) 1 ([A.sl (v.map bC.enc)])=enc { x with aQ:=v }) ∧
 (∀ (c0 c1:A) (cs:List A),upd (c0 :: c1 :: cs) 0 (enc x)=A.sl (x.aF.map aA.enc) :: A.sl (x.aQ.map bC.enc) :: cs) ∧
 (∀ (c0 c1:A),upd (enc x) 0 [c0,c1]=[c0,c1]) ∧
 (∀ y lo k,upd (enc x) 0 [.own y lo k]=[.own y lo k,A.sl (x.aQ.map bC.enc)]) ∧
 (∀ y lo k,upd (enc x) 1 [.own y lo k]=[A.sl (x.aF.map aA.enc),.own y lo k]):=by simp [sub,upd,zn5,A.pure1,zu8,A.scal1,zp4,LK.fits,eE,enc]
end aD
@[ext] structure bJ where
 l:(List Int)
 at_:Int
namespace bJ
def zero:bJ:=⟨[],0⟩
def enc (x:bJ):List A:=[A.sl (x.l.map (eI .i64)),A.int .i64 x.at_]
@[go_sem] theorem len (x:bJ):(enc x).length=2:=by simp [enc]
instance:En bJ:=⟨2,enc,zero⟩
@[go_sem] theorem laws (x:bJ) :
 zn5 (enc x)=true ∧
 zu8 (enc x)=false ∧
 sub (enc x) 0 2=enc x ∧
 (∀ y,upd (enc x) 0 (enc y)=enc y) ∧
 sub (enc x) 0 1=[A.sl (x.l.map (eI .i64))] ∧
 sub (enc x) 1 1=[A.int .i64 x.at_] ∧
 (∀ v,upd (enc x) 0 ([A.sl (v.map (eI .i64))])=enc { x with l:=v }) ∧
 (∀ v,upd (enc x) 1 ([A.int .i64 v])=enc { x with at_:=v }) ∧
 (∀ (c0 c1:A) (cs:List A),upd (c0 :: c1 :: cs) 0 (enc x)=A.sl (x.l.map (eI .i64)) :: A.int .i64 x.at_ :: cs) ∧
 (∀ (c0 c1:A),upd (enc x) 0 [c0,c1]=[c0,c1]) ∧
 (∀ y lo k,upd (enc x) 0 [.own y lo k]=[.own y lo k,A.int .i64 x.at_]):=by simp [sub,upd,zn5,A.pure1,zu8,A.scal1,zp4,LK.fits,eE,enc]
end bJ
@[ext] structure bK where
 name:ByteArray
 (before after:aC)
 deriving DecidableEq
namespace bK
def zero:bK:=⟨⟨#[]⟩,aC.zero,aC.zero⟩
def enc (x:bK):List A:=[A.str x.name]++aC.enc x.before++aC.enc x.after
@[go_sem] theorem len (x:bK):(enc x).length=5:=by simp [enc,aC.len]
instance:En bK:=⟨5,enc,zero⟩
@[go_sem] theorem laws (x:bK) :
 zn5 (enc x)=true ∧
 zu8 (enc x)=true ∧
 zp4 [.s,.i .i64,.i .i64,.i .i64,.i .i64] (enc x)=true ∧
 sub (enc x) 0 5=enc x ∧
 (∀ y,upd (enc x) 0 (enc y)=enc y) ∧
 sub (enc x) 0 1=[A.str x.name] ∧
 sub (enc x) 1 2=aC.enc x.before ∧
 sub (enc x) 3 2=aC.enc x.after ∧
 (∀ v,upd (enc x) 0 ([A.str v])=enc { x with name:=v }) ∧
 (∀ v,upd (enc x) 1 (aC.enc v)=enc { x with before:=v }) ∧
 (∀ v,upd (enc x) 3 (aC.enc v)=enc { x with after:=v }) ∧
 (∀ (c0 c1 c2 c3 c4:A) (cs:List A),upd (c0 :: c1 :: c2 :: c3 :: c4 :: cs) 0 (enc x)=A.str x.name :: A.int .i64 x.before.mode :: A.int .i64 x.before.aS :: A.int .i64 x.after.mode :: A.int .i64 x.after.aS :: cs) ∧
 (∀ (c0 c1 c2 c3 c4:A),upd (enc x) 0 [c0,c1,c2,c3,c4]=[c0,c1,c2,c3,c4]):=by simp [sub,upd,zn5,A.pure1,zu8,A.scal1,zp4,LK.fits,eE,enc,aC.enc]
end bK
@[ext] structure bR where
 (label at_:Int)
 deriving DecidableEq
namespace bR
def zero:bR:=⟨0,0⟩
def enc (x:bR):List A:=[A.int .i64 x.label,A.int .i64 x.at_]
@[go_sem] theorem len (x:bR):(enc x).length=2:=by simp [enc]
instance:En bR:=⟨2,enc,zero⟩
@[go_sem] theorem laws (x:bR) :
 zn5 (enc x)=true ∧
 zu8 (enc x)=true ∧
 zp4 [.i .i64,.i .i64] (enc x)=true ∧
 sub (enc x) 0 2=enc x ∧
 (∀ y,upd (enc x) 0 (enc y)=enc y) ∧
 sub (enc x) 0 1=[A.int .i64 x.label] ∧
 sub (enc x) 1 1=[A.int .i64 x.at_] ∧
 (∀ v,upd (enc x) 0 ([A.int .i64 v])=enc { x with label:=v }) ∧
 (∀ v,upd (enc x) 1 ([A.int .i64 v])=enc { x with at_:=v }) ∧
 (∀ (c0 c1:A) (cs:List A),upd (c0 :: c1 :: cs) 0 (enc x)=A.int .i64 x.label :: A.int .i64 x.at_ :: cs) ∧
 (∀ (c0 c1:A),upd (enc x) 0 [c0,c1]=[c0,c1]):=by simp [sub,upd,zn5,A.pure1,zu8,A.scal1,zp4,LK.fits,eE,enc]
end bR
@[ext] structure aX where
 aP:(List bK)
 bD:(List bR)
namespace aX
def zero:aX:=⟨[],[]⟩
def enc (x:aX):List A:=[A.sl (x.aP.map bK.enc),A.sl (x.bD.map bR.enc)]
@[go_sem] theorem len (x:aX):(enc x).length=2:=by simp [enc]
instance:En aX:=⟨2,enc,zero⟩
@[go_sem] theorem laws (x:aX) :
 zn5 (enc x)=true ∧
 zu8 (enc x)=false ∧
 sub (enc x) 0 2=enc x ∧
 (∀ y,upd (enc x) 0 (enc y)=enc y) ∧
 sub (enc x) 0 1=[A.sl (x.aP.map bK.enc)] ∧
 sub (enc x) 1 1=[A.sl (x.bD.map bR.enc)] ∧
 (∀ v,upd (enc x) 0 ([A.sl (v.map bK.enc)])=enc { x with aP:=v }) ∧
 (∀ v,upd (enc x) 1 ([A.sl (v.map bR.enc)])=enc { x with bD:=v }) ∧
 (∀ (c0 c1:A) (cs:List A),upd (c0 :: c1 :: cs) 0 (enc x)=A.sl (x.aP.map bK.enc) :: A.sl (x.bD.map bR.enc) :: cs) ∧
 (∀ (c0 c1:A),upd (enc x) 0 [c0,c1]=[c0,c1]) ∧
 (∀ y lo k,upd (enc x) 0 [.own y lo k]=[.own y lo k,A.sl (x.bD.map bR.enc)]) ∧
 (∀ y lo k,upd (enc x) 1 [.own y lo k]=[A.sl (x.aP.map bK.enc),.own y lo k]):=by simp [sub,upd,zn5,A.pure1,zu8,A.scal1,zp4,LK.fits,eE,enc]
end aX
@[ext] structure bL where
 bO:aO
 (bG limit:Int)
namespace bL
def zero:bL:=⟨aO.zero,0,0⟩
def enc (x:bL):List A:=aO.enc x.bO++[A.int .i64 x.bG,A.int .i64 x.limit]
@[go_sem] theorem len (x:bL):(enc x).length=7:=by simp [enc,aO.len]
instance:En bL:=⟨7,enc,zero⟩
@[go_sem] theorem laws (x:bL) :
 zn5 (enc x)=true ∧
 zu8 (enc x)=false ∧
 sub (enc x) 0 7=enc x ∧
 (∀ y,upd (enc x) 0 (enc y)=enc y) ∧
 sub (enc x) 0 5=aO.enc x.bO ∧
 sub (enc x) 5 1=[A.int .i64 x.bG] ∧
 sub (enc x) 6 1=[A.int .i64 x.limit] ∧
 (∀ v,upd (enc x) 0 (aO.enc v)=enc { x with bO:=v }) ∧
 (∀ v,upd (enc x) 5 ([A.int .i64 v])=enc { x with bG:=v }) ∧
 (∀ v,upd (enc x) 6 ([A.int .i64 v])=enc { x with limit:=v }) ∧
 (∀ (c0 c1 c2 c3 c4 c5 c6:A) (cs:List A),upd (c0 :: c1 :: c2 :: c3 :: c4 :: c5 :: c6 :: cs) 0 (enc x)=A.int .i64 x.bO.k :: A.str x.bO.bB.name :: A.int .i64 x.bO.bB.aK.mode :: A.int .i64 x.bO.bB.aK.aS :: A.sl (x.bO.bA.map aO.enc) :: A.int .i64 x.bG :: A.int .i64 x.limit :: cs) ∧
 (∀ (c0 c1 c2 c3 c4 c5 c6:A),upd (enc x) 0 [c0,c1,c2,c3,c4,c5,c6]=[c0,c1,c2,c3,c4,c5,c6]):=by simp [sub,upd,zn5,A.pure1,zu8,A.scal1,zp4,LK.fits,eE,enc,aC.enc,aM.enc,aO.enc]
end bL
@[ext] structure aH where
 aN:aJ
 cost:Int
 bH:aX
 bE:Bool
 bF:bL
 (since gen:Int)
namespace aH
def zero:aH:=⟨aJ.zero,0,aX.zero,false,bL.zero,0,0⟩
def enc (x:aH):List A:=aJ.enc x.aN++[A.int .i64 x.cost]++aX.enc x.bH++[A.bool x.bE]++bL.enc x.bF++[A.int .i64 x.since,A.int .i64 x.gen]
@[go_sem] theorem len (x:aH):(enc x).length=16:=by simp [enc,aX.len,aJ.len,bL.len]
instance:En aH:=⟨16,enc,zero⟩
@[go_sem] theorem laws (x:aH) :
 zn5 (enc x)=true ∧
 zu8 (enc x)=false ∧
 sub (enc x) 0 16=enc x ∧
 (∀ y,upd (enc x) 0 (enc y)=enc y) ∧
 sub (enc x) 0 3=aJ.enc x.aN ∧
 sub (enc x) 3 1=[A.int .i64 x.cost] ∧
 sub (enc x) 4 2=aX.enc x.bH ∧
 sub (enc x) 4 1=[A.sl (x.bH.aP.map bK.enc)] ∧
 sub (enc x) 6 1=[A.bool x.bE] ∧
 sub (enc x) 7 7=bL.enc x.bF ∧
 sub (enc x) 7 5=aO.enc x.bF.bO ∧
 sub (enc x) 12 1=[A.int .i64 x.bF.bG] ∧
 sub (enc x) 13 1=[A.int .i64 x.bF.limit] ∧
 sub (enc x) 14 1=[A.int .i64 x.since] ∧
 sub (enc x) 15 1=[A.int .i64 x.gen] ∧
 (∀ v,upd (enc x) 0 (aJ.enc v)=enc { x with aN:=v }) ∧
 (∀ v,upd (enc x) 3 ([A.int .i64 v])=enc { x with cost:=v }) ∧
 (∀ v,upd (enc x) 4 (aX.enc v)=enc { x with bH:=v }) ∧
 (∀ v,upd (enc x) 6 ([A.bool v])=enc { x with bE:=v }) ∧
 (∀ v,upd (enc x) 7 (bL.enc v)=enc { x with bF:=v }) ∧
 (∀ v,upd (enc x) 14 ([A.int .i64 v])=enc { x with since:=v }) ∧
 (∀ v,upd (enc x) 15 ([A.int .i64 v])=enc { x with gen:=v }) ∧
 (∀ (c0 c1 c2 c3 c4 c5 c6 c7 c8 c9 c10 c11 c12 c13 c14 c15:A),upd (enc x) 0 [c0,c1,c2,c3,c4,c5,c6,c7,c8,c9,c10,c11,c12,c13,c14,c15]=[c0,c1,c2,c3,c4,c5,c6,c7,c8,c9,c10,c11,c12,c13,c14,c15]):=by simp [sub,upd,zn5,A.pure1,zu8,A.scal1,zp4,LK.fits,eE,enc,aC.enc,aM.enc,aO.enc,aX.enc,aJ.enc,bL.enc]
end aH
@[ext] structure aZ where
 now:Int
 aF:(List aA)
 aG:(List aH)
namespace aZ
def zero:aZ:=⟨0,[],[]⟩
def enc (x:aZ):List A:=[A.int .i64 x.now,A.sl (x.aF.map aA.enc),A.sl (x.aG.map aH.enc)]
@[go_sem] theorem len (x:aZ):(enc x).length=3:=by simp [enc]
instance:En aZ:=⟨3,enc,zero⟩
@[go_sem] theorem laws (x:aZ) :
 zn5 (enc x)=true ∧
 zu8 (enc x)=false ∧
 sub (enc x) 0 3=enc x ∧
 (∀ y,upd (enc x) 0 (enc y)=enc y) ∧
 sub (enc x) 0 1=[A.int .i64 x.now] ∧
 sub (enc x) 1 1=[A.sl (x.aF.map aA.enc)] ∧
 sub (enc x) 2 1=[A.sl (x.aG.map aH.enc)] ∧
 (∀ v,upd (enc x) 0 ([A.int .i64 v])=enc { x with now:=v }) ∧
 (∀ v,upd (enc x) 1 ([A.sl (v.map aA.enc)])=enc { x with aF:=v }) ∧
 (∀ v,upd (enc x) 2 ([A.sl (v.map aH.enc)])=enc { x with aG:=v }) ∧
 (∀ (c0 c1 c2:A) (cs:List A),upd (c0 :: c1 :: c2 :: cs) 0 (enc x)=A.int .i64 x.now :: A.sl (x.aF.map aA.enc) :: A.sl (x.aG.map aH.enc) :: cs) ∧
 (∀ (c0 c1 c2:A),upd (enc x) 0 [c0,c1,c2]=[c0,c1,c2]) ∧
 (∀ y lo k,upd (enc x) 1 [.own y lo k]=[A.int .i64 x.now,.own y lo k,A.sl (x.aG.map aH.enc)]) ∧
 (∀ y lo k,upd (enc x) 2 [.own y lo k]=[A.int .i64 x.now,A.sl (x.aF.map aA.enc),.own y lo k]):=by simp [sub,upd,zn5,A.pure1,zu8,A.scal1,zp4,LK.fits,eE,enc]
end aZ
@[ext] structure bP where
 rest:(List Int)
 err:Int
namespace bP
def zero:bP:=⟨[],0⟩
def enc (x:bP):List A:=[A.sl (x.rest.map (eI .u8)),A.int .i64 x.err]
@[go_sem] theorem len (x:bP):(enc x).length=2:=by simp [enc]
instance:En bP:=⟨2,enc,zero⟩
@[go_sem] theorem laws (x:bP) :
 zn5 (enc x)=true ∧
 zu8 (enc x)=false ∧
 sub (enc x) 0 2=enc x ∧
 (∀ y,upd (enc x) 0 (enc y)=enc y) ∧
 sub (enc x) 0 1=[A.sl (x.rest.map (eI .u8))] ∧
 sub (enc x) 1 1=[A.int .i64 x.err] ∧
 (∀ v,upd (enc x) 0 ([A.sl (v.map (eI .u8))])=enc { x with rest:=v }) ∧
 (∀ v,upd (enc x) 1 ([A.int .i64 v])=enc { x with err:=v }) ∧
 (∀ (c0 c1:A) (cs:List A),upd (c0 :: c1 :: cs) 0 (enc x)=A.sl (x.rest.map (eI .u8)) :: A.int .i64 x.err :: cs) ∧
 (∀ (c0 c1:A),upd (enc x) 0 [c0,c1]=[c0,c1]) ∧
 (∀ y lo k,upd (enc x) 0 [.own y lo k]=[.own y lo k,A.int .i64 x.err]):=by simp [sub,upd,zn5,A.pure1,zu8,A.scal1,zp4,LK.fits,eE,enc]
end bP
@[ext] structure aY where
 bN:bP
namespace aY
def zero:aY:=⟨bP.zero⟩
def enc (x:aY):List A:=bP.enc x.bN
@[go_sem] theorem len (x:aY):(enc x).length=2:=by simp [enc,bP.len]
instance:En aY:=⟨2,enc,zero⟩
@[go_sem] theorem laws (x:aY) :
 zn5 (enc x)=true ∧
 zu8 (enc x)=false ∧
 sub (enc x) 0 2=enc x ∧
 (∀ y,upd (enc x) 0 (enc y)=enc y) ∧
 sub (enc x) 0 1=[A.sl (x.bN.rest.map (eI .u8))] ∧
 sub (enc x) 1 1=[A.int .i64 x.bN.err] ∧
 (∀ v,upd (enc x) 1 ([A.int .i64 v])=enc { x with bN:={ x.bN with err:=v } }) ∧
 (∀ (c0 c1:A) (cs:List A),upd (c0 :: c1 :: cs) 0 (enc x)=A.sl (x.bN.rest.map (eI .u8)) :: A.int .i64 x.bN.err :: cs) ∧
 (∀ (c0 c1:A),upd (enc x) 0 [c0,c1]=[c0,c1]):=by simp [sub,upd,zn5,A.pure1,zu8,A.scal1,zp4,LK.fits,eE,enc,bP.enc]
end aY
@[ext] structure bM where
 kind:Int
 aN:aJ
 bF:bL
 name:ByteArray
 n:Int
namespace bM
def zero:bM:=⟨0,aJ.zero,bL.zero,⟨#[]⟩,0⟩
def enc (x:bM):List A:=[A.int .i64 x.kind]++aJ.enc x.aN++bL.enc x.bF++[A.str x.name,A.int .i64 x.n]
@[go_sem] theorem len (x:bM):(enc x).length=13:=by simp [enc,aJ.len,bL.len]
instance:En bM:=⟨13,enc,zero⟩
@[go_sem] theorem laws (x:bM) :
 zn5 (enc x)=true ∧
 zu8 (enc x)=false ∧
 sub (enc x) 0 13=enc x ∧
 (∀ y,upd (enc x) 0 (enc y)=enc y) ∧
 sub (enc x) 0 1=[A.int .i64 x.kind] ∧
 sub (enc x) 1 3=aJ.enc x.aN ∧
 sub (enc x) 4 7=bL.enc x.bF ∧
 sub (enc x) 11 1=[A.str x.name] ∧
 sub (enc x) 12 1=[A.int .i64 x.n] ∧
 (∀ v,upd (enc x) 0 ([A.int .i64 v])=enc { x with kind:=v }) ∧
 (∀ v,upd (enc x) 1 (aJ.enc v)=enc { x with aN:=v }) ∧
 (∀ v,upd (enc x) 4 (bL.enc v)=enc { x with bF:=v }) ∧
 (∀ v,upd (enc x) 11 ([A.str v])=enc { x with name:=v }) ∧
 (∀ v,upd (enc x) 12 ([A.int .i64 v])=enc { x with n:=v }) ∧
 (∀ (c0 c1 c2 c3 c4 c5 c6 c7 c8 c9 c10 c11 c12:A),upd (enc x) 0 [c0,c1,c2,c3,c4,c5,c6,c7,c8,c9,c10,c11,c12]=[c0,c1,c2,c3,c4,c5,c6,c7,c8,c9,c10,c11,c12]):=by simp [sub,upd,zn5,A.pure1,zu8,A.scal1,zp4,LK.fits,eE,enc,aC.enc,aM.enc,aO.enc,aJ.enc,bL.enc]
end bM
@[ext] structure bI where
 kind:Int
 aN:aJ
 name:ByteArray
 aK:aC
 deriving DecidableEq
namespace bI
def zero:bI:=⟨0,aJ.zero,⟨#[]⟩,aC.zero⟩
def enc (x:bI):List A:=[A.int .i64 x.kind]++aJ.enc x.aN++[A.str x.name]++aC.enc x.aK
@[go_sem] theorem len (x:bI):(enc x).length=7:=by simp [enc,aC.len,aJ.len]
instance:En bI:=⟨7,enc,zero⟩
@[go_sem] theorem laws (x:bI) :
 zn5 (enc x)=true ∧
 zu8 (enc x)=true ∧
 zp4 [.i .i64,.i .i64,.i .i64,.i .i64,.s,.i .i64,.i .i64] (enc x)=true ∧
 sub (enc x) 0 7=enc x ∧
 (∀ y,upd (enc x) 0 (enc y)=enc y) ∧
 (∀ v,upd (enc x) 0 ([A.int .i64 v])=enc { x with kind:=v }) ∧
 (∀ v,upd (enc x) 1 (aJ.enc v)=enc { x with aN:=v }) ∧
 (∀ v,upd (enc x) 4 ([A.str v])=enc { x with name:=v }) ∧
 (∀ v,upd (enc x) 5 (aC.enc v)=enc { x with aK:=v }) ∧
 (∀ (c0 c1 c2 c3 c4 c5 c6:A) (cs:List A),upd (c0 :: c1 :: c2 :: c3 :: c4 :: c5 :: c6 :: cs) 0 (enc x)=A.int .i64 x.kind :: A.int .i64 x.aN.site :: A.int .i64 x.aN.inc :: A.int .i64 x.aN.num :: A.str x.name :: A.int .i64 x.aK.mode :: A.int .i64 x.aK.aS :: cs) ∧
 (∀ (c0 c1 c2 c3 c4 c5 c6:A),upd (enc x) 0 [c0,c1,c2,c3,c4,c5,c6]=[c0,c1,c2,c3,c4,c5,c6]):=by simp [sub,upd,zn5,A.pure1,zu8,A.scal1,zp4,LK.fits,eE,enc,aC.enc,aJ.enc]
end bI
@[ext] structure aW where
 c:aZ
 ev:(List bI)
namespace aW
def zero:aW:=⟨aZ.zero,[]⟩
def enc (x:aW):List A:=aZ.enc x.c++[A.sl (x.ev.map bI.enc)]
instance:En aW:=⟨4,enc,zero⟩
end aW
attribute [simp] aO.enc_cells
def zaS7:A→List Nat
 | .own x _ _=>[x]
 | .ptr x _ _=>[x]
 | _=>[]
def zbn5:A→List Nat
 | .clo _ cs=>cs.flatMap zaS7
 | a=>zaS7 a
def idsA:A→List Nat
 | .agg cs=>if zn5 cs then [] else cs.flatMap zbn5
 | a=>zbn5 a
def zE7:List A→List Nat
 | []=>[]
 | x :: xs=>idsA x++zE7 xs
def disj:List Nat→List Nat→Bool
 | [],_=>true
 | x :: xs,ys=>!ys.contains x&&disj xs ys
def zba7 (an:List Nat) (i:Nat):List (List Nat×List Nat)→List Nat→List Nat→Bool
 | [],_,_=>true
 | q :: log,r,w=>(an.contains i||(disj q.2 r&&disj q.2 w&&disj w q.1))&&zba7 an (i+1) log r w
def A.flatCap:A→Bool
 | .agg _=>false
 | .clo _ cs=>cs.isEmpty
 | _=>true
def zbf0:List A→Bool
 | []=>true
 | c :: cs=>c.flatCap&&zbf0 cs
def zaX3:List A→Bool
 | .clo _ caps :: _=>zbf0 caps
 | _=>true
theorem zbE4:∀ {cs:List A},zbf0 cs=true→∀ c ∈ cs,idsA c=zaS7 c
 | d :: ds,h,c,hc=>by
  simp only [zbf0,bT] at h
  rcases cF.1 hc with rfl|hc
  ·cases c <;> first|rfl|(simp [A.flatCap] at h; done)|skip
   rename_i f cs
   cases cs with
   | nil=>rfl
   | cons x xs=>simp [A.flatCap] at h
  ·exact zbE4 h.2 c hc
def zaz7 (C:Cx) (an:List (List Nat)):List POp→St→List (List Nat×List Nat)→(St→Prop)→Prop
 | [],st,_,K=>K st
 | p :: ps,st,log,K=>aopS C p st.toS st.nx fun v mw=>zba7 (an.getD log.length []) 0 log (zE7 (zs8 C st p.xs)) (mw.map (·.1))=true∧zaX3 (zs8 C st p.xs)=true ∧
   zaz7 C an ps (st.app p.dst v mw) (log++[(zE7 (zs8 C st p.xs),mw.map (·.1))]) K
section
variable {C:Cx} {E:Env}
theorem zcY2 {p:POp} {s:S} {id:Nat} {K:A→List (Nat×MS)→Prop} (h:aopS C p s id K):∃ v mw,K v mw∧aopS C p s id (fun v' mw'=>v'=v∧mw'=mw):=by
 unfold aopS at h ⊢
 cases hg:zP8 s.fr p.g with
 | none=>simp [hg] at h
 | some g =>
  simp only [hg] at h ⊢
  cases hp:p.po <;> simp only [hp] at h ⊢
  case pick =>
   split at h
   ·split at h
    ·exact ⟨_,_,h.2,h.1,rfl,rfl⟩
    ·exact h.elim
   ·exact h.elim
  case call f =>
   obtain ⟨r,h1,h2,h3⟩:=h
   exact ⟨_,_,h3,r,h1,h2,rfl,rfl⟩
  case callv =>
   split at h
   ·obtain ⟨r,h1,h2,h3⟩:=h
    exact ⟨_,_,h3,r,h1,h2,rfl,rfl⟩
   ·exact h.elim
  case callm f =>
   obtain ⟨l,as,ms,k,r,ms',k',h1,h2,h3,h4,h5⟩:=h
   exact ⟨_,_,h5,l,as,ms,k,r,ms',k',h1,h2,h3,h4,rfl,rfl⟩
  case callvm =>
   split at h
   ·obtain ⟨l,as,ms,k,r,ms',k',h1,h2,h3,h4,h5⟩:=h
    exact ⟨_,_,h5,l,as,ms,k,r,ms',k',h1,h2,h3,h4,rfl,rfl⟩
   ·exact h.elim
  all_goals
   split at h
   ·exact ⟨_,_,h.2.2,h.1,h.2.1,rfl,rfl⟩
   ·exact ⟨_,_,h.2.2,h.1,h.2.1,rfl,rfl⟩
theorem zdn3 {p:POp} {st:St} {K:A→List (Nat×MS)→Prop} (h:aopS C p st.toS st.nx K):aopS C p st.toS st.nx (fun v mw=>mwOk st.nx mw∧K v mw):=by
 unfold aopS at h ⊢
 simp only [St.toS] at h ⊢
 cases hg:zP8 st.slot p.g with
 | none=>simp [hg] at h
 | some g =>
  simp only [hg] at h ⊢
  cases hp:p.po <;> simp only [hp] at h ⊢
  case pick =>
   split at h
   ·split at h
    ·exact ⟨h.1,trivial,h.2⟩
    ·exact h.elim
   ·exact h.elim
  case call f =>
   obtain ⟨r,h1,h2,h3⟩:=h
   exact ⟨r,h1,h2,zbj7 st _ _,h3⟩
  case callv =>
   split at h
   ·obtain ⟨r,h1,h2,h3⟩:=h
    exact ⟨r,h1,h2,zbj7 st _ _,h3⟩
   ·exact h.elim
  case callm f=>exact zbJ4 h
  case callvm =>
   split at h
   ·exact zbJ4 h
   ·exact h.elim
  all_goals
   split at h
   ·rename_i ef hev
    obtain ⟨h1,h2,h3⟩:=h
    exact ⟨h1,h2,zcG6 hev,h3⟩
   ·exact ⟨h.1,h.2.1,trivial,h.2.2⟩
theorem zaX4 {m m2:Nat→MS} {x:A} (h:∀ y ∈ zbn5 x,m y=m2 y):frz1 m x=frz1 m2 x∧(zaw7 m x ↔ zaw7 m2 x):=by
 cases x <;> first|exact ⟨rfl,jT⟩|skip
 rename_i y lo n
 have:=h y (by simp [zbn5,zaS7])
 simp only [frz1,zaw7,this,cV]
theorem zbN2 {x:A}:∀ y ∈ zaw8 x,y ∈ idsA x:=by
 cases x <;> intro y hy <;> first|(simp [zaw8,zR4] at hy; done)|skip
 ·rename_i z lo n; simpa [zaw8,zR4,idsA,zbn5,zaS7] using hy
 ·rename_i cs
  simp only [zaw8,idsA] at hy ⊢
  split at hy
  ·cases hy
  ·rename_i hp
   rw [bU hp]
   obtain ⟨c,hc,hy⟩:=eU.1 hy
   refine eU.2 ⟨c,hc,?_⟩
   cases c <;> simp [zR4] at hy
   subst hy; simp [zbn5,zaS7]
theorem zcb9 {m m2:Nat→MS} {x:A} (h:∀ y ∈ idsA x,m y=m2 y):frz m x=frz m2 x∧(zaE1 m x ↔ zaE1 m2 x):=by
 cases x with
 | agg cs =>
  simp only [frz,zaE1]
  split
  ·exact ⟨rfl,jT⟩
  ·rename_i hp
   simp only [idsA,bU hp] at h
   have h2:∀ c ∈ cs,∀ y ∈ zbn5 c,m y=m2 y:=fun c hc y hy=>h y (eU.2 ⟨c,hc,hy⟩)
   exact ⟨by rw [List.map_congr_left fun c hc=>(zaX4 (h2 c hc)).1],⟨fun hh c hc=>(zaX4 (h2 c hc)).2.1 (hh c hc),fun hh c hc=>(zaX4 (h2 c hc)).2.2 (hh c hc)⟩⟩
 | own x lo n=>exact zaX4 (x:=.own x lo n) h
 | _=>exact ⟨rfl,jT⟩
theorem zaX5 {m m2:Nat→MS}:∀ {xs:List A},(∀ y ∈ zE7 xs,m y=m2 y)→zS3 m xs=zS3 m2 xs∧(zH5 m xs ↔ zH5 m2 xs)
 | [],_=>⟨rfl,jT⟩
 | x :: xs,h=>by
  obtain ⟨h1,h2⟩:=zcb9 (x:=x) fun y hy=>h y (dA _ hy)
  obtain ⟨h3,h4⟩:=zaX5 (xs:=xs) fun y hy=>h y (cY _ hy)
  simp only [zS3,zH5,h1,h2,h3,h4,cV]
theorem zaO9 {m m2:Nat→MS}:∀ {xs:List Nat},(∀ y ∈ xs,m y=m2 y)→zT2 m xs=zT2 m2 xs
 | [],_=>rfl
 | x :: xs,h=>by simp only [zT2,h x (.head _),zaO9 fun y hy=>h y (.tail _ hy)]
theorem zaR4:∀ {xs:List A},∀ y ∈ zH6 xs,y ∈ zE7 xs
 | x :: xs,y,hy=>by
  rcases cI.1 hy with h|h
  ·exact dA _ (zbN2 y h)
  ·exact cY _ (zaR4 y h)
theorem zcH6:∀ {vs as:List A},∀ y ∈ fzM vs as,y ∈ zE7 vs
 | v :: vs,a :: as,y,hy=>by
  rcases cI.1 hy with h|h
  ·split at h
   ·cases h
   ·exact dA _ (zbN2 y h)
  ·exact cY _ (zcH6 y h)
 | [],[],y,hy=>by cases hy
 | _ :: _,[],y,hy=>by cases hy
 | [],_ :: _,y,hy=>by cases hy
theorem zbE5 {m m2:Nat→MS} {l:List (Nat×Nat)} {k:Nat}:∀ {vs as:List A},(∀ y ∈ zE7 vs,m y=m2 y)→zbu2 m l k vs as→zbu2 m2 l k vs as
 | v :: vs,a :: as,h,h1=>by
  refine ⟨?_,zbE5 (fun y hy=>h y (cY _ hy)) h1.2⟩
  obtain ⟨h3,h4⟩:=zcb9 (x:=v) fun y hy=>h y (dA _ hy)
  have h2:=h1.1
  unfold argM at h2 ⊢
  split
  ·rename_i hh; rw [bV hh] at h2; exact h2
  ·rename_i hh; rw [bU hh] at h2; exact ⟨h4.1 h2.1,h3 ▸ h2.2⟩
 | [],[],_,_=>trivial
 | _ :: _,[],_,h=>h.elim
 | [],_ :: _,_,h=>h.elim
theorem zbE6 {m m2:Nat→MS} {l:List (Nat×Nat)} {k:Nat} {fz:List Nat}:∀ {ms:List (Nat×Row)},(∀ q ∈ ms,m (rho l q.1)=m2 (rho l q.1))→zca7 m l k fz ms→zca7 m2 l k fz ms
 | [],_,_=>trivial
 | q :: ms,h,h1=>by
  obtain ⟨h2,h3,h4,h5,h6,h7⟩:=h1
  exact ⟨by rw [← h q (.head _)]; exact h2,h3,h4,h5,h6,zbE6 (fun p hp=>h p (.tail _ hp)) h7⟩
theorem zbq2 {L:List (Nat×Nat)} {ms':List (Nat×Row)}:∀ {ids:List Nat},∀ x ∈ ids,rho L x ∈ (zag1 L ms' ids).map (·.1)
 | y :: ids,x,h=>by
  rcases cF.1 h with rfl|h
  ·exact .head _
  ·exact .tail _ (zbq2 x h)
theorem zbE7 {m m2:Nat→MS}:∀ {mw:List (Nat×MS)},(∀ y ∈ mw.map (·.1),m y=m2 y)→zbu3 m mw→zbu3 m2 mw
 | [],_,_=>trivial
 | q :: r,h,⟨h1,h3⟩=>⟨by rw [← h q.1 (.head _)]; exact h1,zbE7 (fun y hy=>h y (.tail _ hy)) h3⟩
theorem zbE8 {f:FuncId} {m m2:Nat→MS} {id:Nat} {vals:List A} {og:Option (Nat×Bool)} {g:Bool} {ob:Prop} {v:A} {mw:List (Nat×MS)} (h1:∀ y ∈ zE7 vals,m y=m2 y) (h2:∀ y ∈ mw.map (·.1),m y=m2 y)
  (h:zaO5 C m id f vals og g ob (fun n=>∀ x,id≤x→x < id+n→m x=.fresh) (fun v' mw'=>v'=v∧mw'=mw)) :
  zaO5 C m2 id f vals og g ob (fun n=>∀ x,id≤x→x < id+n→m2 x=.fresh) (fun v' mw'=>v'=v∧mw'=mw):=by
 obtain ⟨l,as,ms,k,r,ms',k',ht,hf,hvv,h5,h7,h8⟩:=h
 have e0:mwM m2 (l++newL k id (k' - k)) vals as ms ms' k k'=mw:=by rw [← h8,mwM,mwM,zaO9 fun y hy=>h1 y (zcH6 y hy)]
 refine ⟨l,as,ms,k,r,ms',k',fun hg=>?_,fun hg=>?_,hvv,h5,h7,e0⟩
 case refine_2 =>
  rw [e0]; rw [h8] at hf
  exact ⟨(hf hg).1,zbE7 h2 (hf hg).2⟩
 obtain ⟨hob,h3,h4,h6⟩:=ht hg
 obtain ⟨g1,g2,g3,g4,g5,g6,g7,g8⟩:=h4
 have hkk:k≤k':=fF g6
 have key:∀ x ∈ ms.map (·.1)++(List.range (k' - k)).map (k+·),m (rho (l++newL k id (k' - k)) x)=m2 (rho (l++newL k id (k' - k)) x):=fun x hx=>by
  refine h2 _ ?_
  rw [← h8,mwM,fC]
  exact cY _ (zbq2 x hx)
 have rhoOld:∀ x,x < k→rho (l++newL k id (k' - k)) x=rho l x:=fun x hx=>by
  simp only [rho,zag2,zau4]
  rw [bU (by omega),kA]
 have rhoNew:∀ i,i < k' - k→rho (l++newL k id (k' - k)) (k+i)=id+i:=fun i hi=>by
  simp only [rho,zag2,zau4]
  rw [zaS1 fun q hq=>by have:=g8 q hq; omega,bV (by omega)]
  simp
 refine ⟨hob,h3,⟨zbE5 h1 g1,zbE6 (fun q hq=>?_) g2,g3,g4,g5,g6,g7,g8⟩,fun x hx hx2=>?_⟩
 ·have:=key q.1 (dA _ (cQ.2 ⟨q,hq,rfl⟩))
  rwa [rhoOld q.1 (zaS3 g2 q.1 q.2 hq).2.2.1] at this
 ·have:=key (k+(x - id)) (cY _ (cQ.2 ⟨x - id,eG.2 (by omega),rfl⟩))
  rw [rhoNew _ (by omega),show id+(x - id)=x by omega] at this
  rw [← this]; exact h6 x hx hx2
theorem zbX0 (x y:List A):zE7 (x++y)=zE7 x++zE7 y:=by
 induction x with
 | nil=>rfl
 | cons a x ih=>simp only [List.cons_append,zE7,ih,cE]
theorem zbE9 {y:Nat}:∀ {caps:List A},(∀ c ∈ caps,idsA c=zaS7 c)→y ∈ zE7 caps→y ∈ caps.flatMap zaS7
 | c :: cs,hc,h=>by
  rcases cI.1 h with h|h
  ·exact eU.2 ⟨c,.head _,hc c (.head _) ▸ h⟩
  ·obtain ⟨d,hd,h2⟩:=eU.1 (zbE9 (fun d hd=>hc d (.tail _ hd)) h)
   exact eU.2 ⟨d,.tail _ hd,h2⟩
theorem zbF0 {f:FuncId} {caps vals:List A} {y:Nat} (h:y ∈ zE7 (vals++caps)) (hc:∀ c ∈ caps,idsA c=zaS7 c):y ∈ zE7 (.clo f caps :: vals):=by
 rw [zbX0] at h
 simp only [zE7,cI]
 rcases cI.1 h with h|h
 ·exact .inr h
 ·exact .inl (zbE9 hc h)
theorem zcY3 {id:Nat} {m m2:Nat→MS} {po:PO} {vals:List A} (h:∀ y ∈ zE7 vals,m y=m2 y):ev id m po vals=ev id m2 po vals:=by
 have e1:∀ {x:A} {xs:List A},vals=x :: xs→(∀ y ∈ idsA x,m y=m2 y):=fun hv y hy=>h y (by rw [hv]; exact dA _ hy)
 have e2:∀ {x x2:A} {xs:List A},vals=x :: x2 :: xs→(∀ y ∈ idsA x2,m y=m2 y):=fun hv y hy=>h y (by rw [hv]; exact cY _ (dA _ hy))
 have own:∀ {x:Nat} {lo n:Nat} ,(∀ y ∈ idsA (.own x lo n),m y=m2 y)→m x=m2 x:=fun hh=>hh _ (by simp [idsA,zbn5,zaS7])
 have ptr:∀ {x:Nat} {lo n:Nat} ,(∀ y ∈ idsA (.ptr x lo n),m y=m2 y)→m x=m2 x:=fun hh=>hh _ (by simp [idsA,zbn5,zaS7])
 have hel:∀ {x:A},(∀ y ∈ idsA x,m y=m2 y)→zaH7 m x=zaH7 m2 x∧zan1 m x=zan1 m2 x:=fun {x} hh=>by
  cases x <;> first|exact ⟨rfl,rfl⟩|skip
  simp only [zaH7,zan1,own hh,cV]
 have hsl:∀ {x:A} {sz:Nat} {lo hi mx:Option Int},(∀ y ∈ idsA x,m y=m2 y)→zaz6 m sz x lo hi mx=zaz6 m2 sz x lo hi mx:=fun {x sz lo hi mx} hh=>by
  cases x <;> cases mx <;> first|rfl|(simp only [zaz6,own hh])
 cases po
 case slc sz lo hi mx =>
  rcases vals with _|⟨x,_|⟨x2,_|⟨x3,_|⟨x4,_|⟨x5,xs⟩⟩⟩⟩⟩
  ·cases lo <;> cases hi <;> cases mx <;> rfl
  ·have hx:=e1 rfl
   have:=fun {lo hi mx}=>hsl (sz:=sz) (lo:=lo) (hi:=hi) (mx:=mx) hx
   cases lo <;> cases hi <;> cases mx <;> first|rfl|(simp only [ev,this])
  ·have hx:=e1 rfl
   have:=fun {lo hi mx}=>hsl (sz:=sz) (lo:=lo) (hi:=hi) (mx:=mx) hx
   cases lo <;> cases hi <;> cases mx <;> cases x2 <;> first|rfl|(simp only [ev,this])
  ·have hx:=e1 rfl
   have:=fun {lo hi mx}=>hsl (sz:=sz) (lo:=lo) (hi:=hi) (mx:=mx) hx
   cases lo <;> cases hi <;> cases mx <;> cases x2 <;> cases x3 <;> first|rfl|(simp only [ev,this])
  ·have hx:=e1 rfl
   have:=fun {lo hi mx}=>hsl (sz:=sz) (lo:=lo) (hi:=hi) (mx:=mx) hx
   cases lo <;> cases hi <;> cases mx <;> first|rfl|(cases x2 <;> first|rfl|(cases x3 <;> first|rfl|(cases x4 <;> first|rfl|(simp only [ev,this]))))
  ·cases lo <;> cases hi <;> cases mx <;> first|rfl|(cases x2 <;> first|rfl|(cases x3 <;> first|rfl|(cases x4 <;> rfl)))
 case slcS lo hi =>
  rcases vals with _|⟨x,_|⟨x2,_|⟨x3,_|⟨x4,xs⟩⟩⟩⟩ <;> cases lo <;> cases hi <;> first|rfl|(cases x <;> first|rfl|(cases x2 <;> first|rfl|(cases x3 <;> rfl)))
 case cvS =>
  rcases vals with _|⟨x,_|⟨x2,xs⟩⟩ <;> first|rfl|skip
  obtain ⟨g1,g2⟩:=hel (e1 rfl)
  simp only [ev,g1,g2]
 case append sz bytes z =>
  rcases vals with _|⟨x,_|⟨x2,_|⟨x3,xs⟩⟩⟩ <;> first|rfl|skip
  have hx:=e1 rfl
  obtain ⟨g1,g2⟩:=hel (e2 rfl)
  simp only [ev,g1,g2]
  cases x <;> first|rfl|skip
  have e:=own hx
  simp only [e]
 case appc sz bytes =>
  rcases vals with _|⟨x,_|⟨x2,_|⟨x3,xs⟩⟩⟩ <;> first|rfl|skip
  have hx:=e1 rfl
  obtain ⟨g1,g2⟩:=hel (e2 rfl)
  simp only [ev,g1,g2]
  cases x <;> first|rfl|skip
  have e:=own hx
  simp only [e]
 case clear sz z =>
  rcases vals with _|⟨x,_|⟨x2,xs⟩⟩ <;> first|rfl|skip
  have hx:=e1 rfl
  simp only [ev]
  cases x <;> first|rfl|skip
  have e:=own hx
  simp only [e]
 case copy sz =>
  rcases vals with _|⟨x,_|⟨x2,_|⟨x3,xs⟩⟩⟩ <;> first|rfl|skip
  have hx:=e1 rfl
  obtain ⟨g1,g2⟩:=hel (e2 rfl)
  simp only [ev,g1,g2]
  cases x <;> first|rfl|skip
  have e:=own hx
  simp only [e]
 case load n ag =>
  rcases vals with _|⟨x,_|⟨x2,xs⟩⟩ <;> first|rfl|skip
  have hx:=e1 rfl
  cases x <;> first|rfl|skip
  have e:=ptr hx
  simp only [ev,e]
 case store n =>
  rcases vals with _|⟨x,_|⟨x2,_|⟨x3,xs⟩⟩⟩ <;> first|rfl|skip
  have hx:=e1 rfl
  cases x <;> first|rfl|skip
  have e:=ptr hx
  simp only [ev,e]
 case faddr off =>
  rcases vals with _|⟨x,_|⟨x2,xs⟩⟩ <;> first|rfl|skip
  have hx:=e1 rfl
  cases x <;> first|rfl|skip
  have e:=ptr hx
  simp only [ev,e]
 case nilck =>
  rcases vals with _|⟨x,_|⟨x2,xs⟩⟩ <;> first|rfl|skip
  have hx:=e1 rfl
  cases x <;> first|rfl|skip
  have e:=ptr hx
  simp only [ev,e]
 case len =>
  rcases vals with _|⟨x,_|⟨x2,xs⟩⟩ <;> first|rfl|skip
  have hx:=e1 rfl
  cases x <;> first|rfl|skip
  have e:=own hx
  simp only [ev,e]
 case iaA n sz =>
  rcases vals with _|⟨x,_|⟨x2,_|⟨x3,xs⟩⟩⟩ <;> first|rfl|(cases x2 <;> rfl)|skip
  have hx:=e1 rfl
  cases x2 <;> first|rfl|skip
  cases x <;> first|rfl|skip
  have e:=ptr hx
  simp only [ev,e]
 case iaS sz z =>
  rcases vals with _|⟨x,_|⟨x2,_|⟨x3,xs⟩⟩⟩ <;> first|rfl|(cases x2 <;> rfl)|skip
  have hx:=e1 rfl
  cases x2 <;> first|rfl|skip
  cases x <;> first|rfl|skip
  have e:=own hx
  simp only [ev,e]
 all_goals first
  | rfl
  | (rcases vals with _|⟨x,_|⟨x2,_|⟨x3,xs⟩⟩⟩ <;> first|rfl|(cases x <;> first|rfl|(cases x2 <;> rfl)))
theorem zbF1 {fr f2:Nat→A}:∀ (xs:List PX),(∀ t ∈ rdsX xs,fr t=f2 t)→zM2 C fr xs=zM2 C f2 xs∧(gdsF C fr xs ↔ gdsF C f2 xs)
 | [],_=>⟨rfl,jT⟩
 | x :: xs,h=>by
  have h1:=zaE4 (x:=x) C.G (f:=fr) (g:=f2) fun t ht=>h t ((zR6 x xs t).2 (.inl ht))
  obtain ⟨h2,h3⟩:=zbF1 xs fun t ht=>h t ((zR6 x xs t).2 (.inr ht))
  simp only [zM2,gdsF,h1,h2,h3,cV]
theorem zcy8 {p:POp} {s s2:S} {id:Nat} {v:A} {mw:List (Nat×MS)} (hr:∀ t ∈ p.rds,s.fr t=s2.fr t) (hm:∀ y ∈ zE7 (zM2 C s.fr p.xs),s.mem y=s2.mem y) (hw:∀ y ∈ mw.map (·.1),s.mem y=s2.mem y)
  (hcap:∀ f caps vals,(p.po=.callv∨p.po=.callvm)→zM2 C s.fr p.xs=.clo f caps :: vals→∀ c ∈ caps,idsA c=zaS7 c)
  (h:aopS C p s id (fun v' mw'=>v'=v∧mw'=mw)):aopS C p s2 id (fun v' mw'=>v'=v∧mw'=mw):=by
 have hx:∀ t ∈ rdsX p.xs,s.fr t=s2.fr t:=fun t ht=>hr t (cY _ ht)
 obtain ⟨hv,hgd⟩:=zbF1 (C:=C) p.xs hx
 have hgo:zP8 s2.fr p.g=zP8 s.fr p.g:=by
  cases hg:p.g with
  | none=>rfl
  | some q=>simp only [zP8]; rw [hr q.1 (dA _ (by simp [hg]))]
 obtain ⟨hf1,hf2⟩:=zaX5 hm
 have hcm:∀ r,zM9 s.mem (zM2 C s.fr p.xs) r=zM9 s2.mem (zM2 C s.fr p.xs) r:=fun r=>by
  simp only [zM9,zaO9 fun y hy=>hm y (zaR4 y hy)]
 unfold aopS at h ⊢
 rw [hgo,← hv,← hgd]
 cases hg:zP8 s.fr p.g with
 | none=>simp [hg] at h
 | some g =>
  simp only [hg] at h ⊢
  cases hp:p.po <;> simp only [hp] at h ⊢
  case pick =>
   split at h
   ·rename_i c x y hxs
    simp only [hxs] at hx ⊢
    have e1:=zaE4 (x:=c) C.G (f:=s.fr) (g:=s2.fr) fun t ht=>hx t ((zR6 _ _ _).2 (.inl ht))
    have e2:=zaE4 (x:=x) C.G (f:=s.fr) (g:=s2.fr) fun t ht=>hx t ((zR6 _ _ _).2 (.inr ((zR6 _ _ _).2 (.inl ht))))
    have e3:=zaE4 (x:=y) C.G (f:=s.fr) (g:=s2.fr) fun t ht=>hx t ((zR6 _ _ _).2 (.inr ((zR6 _ _ _).2 (.inr ht))))
    rw [← e1,← e2,← e3]
    exact h
   ·exact h.elim
  case call f =>
   rw [← hf1,← hf2]
   obtain ⟨r,h1,h2,h3⟩:=h
   exact ⟨r,h1,by rw [← hcm]; exact h2,by rw [← hcm]; exact h3⟩
  case callv =>
   split at h
   ·rename_i f caps vals hvals
    have hc:=hcap f caps vals (.inl hp) hvals
    have hm2:∀ y ∈ zE7 (vals++caps),s.mem y=s2.mem y:=fun y hy=>hm y (by rw [hvals]; exact zbF0 hy hc)
    obtain ⟨g1,g2⟩:=zaX5 hm2
    have hcm2:∀ r,zM9 s.mem (vals++caps) r=zM9 s2.mem (vals++caps) r:=fun r=>by
     simp only [zM9,zaO9 fun y hy=>hm2 y (zaR4 y hy)]
    obtain ⟨r,h1,h2,h3⟩:=h
    rw [← g1,← g2]
    exact ⟨r,h1,by rw [← hcm2]; exact h2,by rw [← hcm2]; exact h3⟩
   ·exact h.elim
  case callm f=>exact zbE8 hm hw h
  case callvm =>
   split at h
   ·rename_i f caps vals hvals
    have hc:=hcap f caps vals (.inr hp) hvals
    exact zbE8 (fun y hy=>hm y (by rw [hvals]; exact zbF0 hy hc)) hw h
   ·exact h.elim
  all_goals
   rw [← zcY3 (id:=id) hm]
   exact h
theorem zdC8 {id:Nat} {m:Nat→MS} {po:PO} {vals:List A} {ef:Ef} (h:ev id m po vals=some ef):id ∈ ef.mw.map (·.1)∨∀ id',ev id' m po vals=some ef:=by
 cases po
 case nilown sz z=>rcases vals with _|⟨x,_|⟨x2,xs⟩⟩ <;> cases h; exact .inl (by simp)
 case box n=>rcases vals with _|⟨x,_|⟨x2,xs⟩⟩ <;> cases h; exact .inl (by simp)
 case alloc n z=>rcases vals with _|⟨x,xs⟩ <;> cases h; exact .inl (by simp)
 case bown sz z=>simp only [ev,dC] at h; subst h; exact .inl (by simp)
 case mk sz b z =>
  rcases vals with _|⟨x,_|⟨x2,_|⟨x3,xs⟩⟩⟩ <;> first|(cases h; done)|(cases x <;> cases h; done)|skip
  ·cases x <;> cases x2 <;> cases h; exact .inl (by simp)
  ·cases x <;> cases x2 <;> cases h
 case append sz b z =>
  rcases vals with _|⟨x,_|⟨x2,_|⟨x3,xs⟩⟩⟩ <;> first|(cases h; done)|skip
  simp only [ev,fZ] at h
  obtain ⟨new,hnew,h⟩:=h
  cases x <;> simp only [] at h <;> first|(cases h; done)|skip
  ·cases h; exact .inl (by simp)
  ·split at h
   ·cases h; exact .inl (by simp)
   ·cases h
 case appc sz b =>
  rcases vals with _|⟨x,_|⟨x2,_|⟨x3,xs⟩⟩⟩ <;> first|(cases h; done)|skip
  simp only [ev,fZ] at h
  obtain ⟨new,hnew,h⟩:=h
  cases x <;> simp only [] at h <;> first|(cases h; done)|skip
  split at h
  ·cases h; exact .inl (by simp)
  ·cases h
 all_goals
  refine .inr fun id'=>?_
  rw [← h]
  first
   | rfl
   | (rename_i lo hi mx; cases lo <;> cases hi <;> cases mx <;> rcases vals with _|⟨x,_|⟨x2,_|⟨x3,_|⟨x4,_|⟨x5,xs⟩⟩⟩⟩⟩ <;> first|rfl|(cases x2 <;> first|rfl|(cases x3 <;> first|rfl|(cases x4 <;> rfl))))
   | (rename_i lo hi; cases lo <;> cases hi <;> rcases vals with _|⟨x,_|⟨x2,_|⟨x3,_|⟨x4,xs⟩⟩⟩⟩ <;> first|rfl|(cases x <;> first|rfl|(cases x2 <;> first|rfl|(cases x3 <;> rfl))))
   | (rcases vals with _|⟨x,_|⟨x2,_|⟨x3,xs⟩⟩⟩ <;> first|rfl|(cases x <;> first|rfl|(cases x2 <;> rfl))|(cases x2 <;> rfl))
theorem zdn4 {p:POp} {s:S} {id:Nat} {v:A} {mw:List (Nat×MS)} (h:aopS C p s id (fun v' mw'=>v'=v∧mw'=mw)):id ∈ mw.map (·.1)∨∀ id',id≤id'→aopS C p s id' (fun v' mw'=>v'=v∧mw'=mw):=by
 have cm:∀ {f:FuncId} {vals:List A} {og:Option (Nat×Bool)} {g:Bool} {ob:Prop},zaO5 C s.mem id f vals og g ob (fun n=>∀ x,id≤x→x < id+n→s.mem x=.fresh) (fun v' mw'=>v'=v∧mw'=mw) →
   id ∈ mw.map (·.1)∨∀ id',id≤id'→zaO5 C s.mem id' f vals og g ob (fun n=>∀ x,id'≤x→x < id'+n→s.mem x=.fresh) (fun v' mw'=>v'=v∧mw'=mw):=fun {f vals og g ob} h=>by
  obtain ⟨l,as,ms,k,r,ms',k',ht,hf,hvv,h5,h7,h8⟩:=h
  by_cases hk:k=k'
  ·have en:∀ id',newL k id' (k' - k)=[]:=fun id'=>by rw [hk,gM]; rfl
   simp only [en] at hf hvv h7 h8
   refine .inr fun id' hid=>⟨l,as,ms,k,r,ms',k',fun hg=>?_,?_⟩
   ·obtain ⟨hob,h3,h4,h6⟩:=ht hg
    obtain ⟨g1,g2,g3,g4,g5,g6,g7,g8⟩:=h4
    exact ⟨hob,h3,⟨g1,g2,g3,g4,g5,g6,fun q hq=>dX (g7 q hq) hid,g8⟩,fun x hx hx2=>by omega⟩
   ·simp only [en]
    exact ⟨hf,hvv,h5,h7,h8⟩
  ·have hg:g=true:=by
    cases g with
    | true=>rfl
    | false=>exact absurd (hf rfl).1 hk
   obtain ⟨hob,h3,h4,h6⟩:=ht hg
   obtain ⟨g1,g2,g3,g4,g5,g6,g7,g8⟩:=h4
   have hkk:k≤k':=fF g6
   left
   rw [← h8,mwM,fC]
   refine cY _ ?_
   have:=zbq2 (L:=l++newL k id (k' - k)) (ms':=ms') (ids:=ms.map (·.1)++(List.range (k' - k)).map (k+·)) (k+0) (cY _ (cQ.2 ⟨0,eG.2 (by omega),rfl⟩))
   have e:rho (l++newL k id (k' - k)) (k+0)=id+0:=by
    simp only [rho,zag2,zau4]
    rw [zaS1 fun q hq=>by have:=g8 q hq; omega,bV (by omega)]
    simp
   rw [e] at this
   exact this
 unfold aopS at h ⊢
 cases hg:zP8 s.fr p.g with
 | none=>simp [hg] at h
 | some g =>
  simp only [hg] at h ⊢
  cases hp:p.po <;> simp only [hp] at h ⊢
  case pick=>exact .inr fun _ _=>h
  case call f=>exact .inr fun _ _=>h
  case callv=>exact .inr fun _ _=>h
  case callm f =>
   exact cm h
  case callvm =>
   split at h
   ·exact cm h
   ·exact h.elim
  all_goals
   split at h
   ·rename_i ef hev
    obtain ⟨h1,h2,h3,h4⟩:=h
    rcases zdC8 hev with g1|g1
    ·exact .inl (h4 ▸ g1)
    ·exact .inr fun id' _=>by rw [g1 id']; exact ⟨h1,h2,h3,h4⟩
   ·rename_i hev
    exact .inr fun id' _=>by rw [← zdu3 (id:=id) h.2.1,hev]; exact h
end
end Ab
end Go.Proofs.YtogpinppgncpmaaGreatDoor
