import Derived.Test.YtebopmkhhppfaaaGreatDoorAb19
namespace Go.Proofs.YtebopmkhhppfaaaGreatDoor
namespace Ab
set_option linter.unusedSimpArgs false
set_option linter.unusedVariables false
def zaw2:A→List Nat
 | .own x _ _=>[x]
 | .ptr x _ _=>[x]
 | _=>[]
def zaL4:A→List Nat
 | .clo _ cs=>cs.flatMap zaw2
 | a=>zaw2 a
def idsA:A→List Nat
 | .agg cs=>if zl2 cs then [] else cs.flatMap zaL4
 | a=>zaL4 a
def zw8:List A→List Nat
 | []=>[]
 | x :: xs=>idsA x++zw8 xs
def disj:List Nat→List Nat→Bool
 | [],_=>true
 | x :: xs,ys=>!ys.contains x&&disj xs ys
def zaF2 (an:List Nat) (i:Nat):List (List Nat×List Nat)→List Nat→List Nat→Bool
 | [],_,_=>true
 | q :: log,r,w=>(an.contains i||(disj q.2 r&&disj q.2 w&&disj w q.1))&&zaF2 an (i+1) log r w
def A.flatCap:A→Bool
 | .agg _=>false
 | .clo _ cs=>cs.isEmpty
 | _=>true
def zaF3:List A→Bool
 | []=>true
 | c :: cs=>c.flatCap&&zaF3 cs
def zaz5:List A→Bool
 | .clo _ caps :: _=>zaF3 caps
 | _=>true
theorem zaY8:∀ {cs:List A},zaF3 cs=true→∀ c ∈ cs,idsA c=zaw2 c
 | d :: ds,h,c,hc=>by
  simp only [zaF3,Bool.and_eq_true] at h
  rcases List.mem_cons.1 hc with rfl|hc
  ·cases c <;> first|rfl|(simp [A.flatCap] at h; done)|skip
   rename_i f cs
   cases cs with
   | nil=>rfl
   | cons x xs=>simp [A.flatCap] at h
  ·exact zaY8 h.2 c hc
def zal0 (C:Cx) (an:List (List Nat)):List POp→St→List (List Nat×List Nat)→(St→Prop)→Prop
 | [],st,_,K=>K st
 | p :: ps,st,log,K=>aopS C p st.toS st.nx fun v mw=>zaF2 (an.getD log.length []) 0 log (zw8 (zk1 C st p.xs)) (mw.map (·.1))=true∧zaz5 (zk1 C st p.xs)=true ∧
   zal0 C an ps (st.app p.dst v mw) (log++[(zw8 (zk1 C st p.xs),mw.map (·.1))]) K
section
variable {C:Cx} {E:Env}
theorem zbV7 {p:POp} {s:S} {id:Nat} {K:A→List (Nat×MS)→Prop} (h:aopS C p s id K):∃ v mw,K v mw∧aopS C p s id (fun v' mw'=>v'=v∧mw'=mw):=by
 unfold aopS at h ⊢
 cases hg:zH3 s.fr p.g with
 | none=>simp [hg] at h
 | some g =>
  simp only [hg] at h ⊢
  cases hp:p.po <;> simp only [hp] at h ⊢
  case pick =>
   split at h
   ·split at h
    ·exact ⟨_,_,h.2,h.1,rfl,rfl⟩
    ·exact h.elim
   ·exact h.elim
  case call f =>
   obtain ⟨r,h1,h2,h3⟩:=h
   exact ⟨_,_,h3,r,h1,h2,rfl,rfl⟩
  case callv =>
   split at h
   ·obtain ⟨r,h1,h2,h3⟩:=h
    exact ⟨_,_,h3,r,h1,h2,rfl,rfl⟩
   ·exact h.elim
  case callm f =>
   obtain ⟨l,as,ms,k,r,ms',k',h1,h2,h3,h4,h5⟩:=h
   exact ⟨_,_,h5,l,as,ms,k,r,ms',k',h1,h2,h3,h4,rfl,rfl⟩
  case callvm =>
   split at h
   ·obtain ⟨l,as,ms,k,r,ms',k',h1,h2,h3,h4,h5⟩:=h
    exact ⟨_,_,h5,l,as,ms,k,r,ms',k',h1,h2,h3,h4,rfl,rfl⟩
   ·exact h.elim
  all_goals
   split at h
   ·exact ⟨_,_,h.2.2,h.1,h.2.1,rfl,rfl⟩
   ·exact ⟨_,_,h.2.2,h.1,h.2.1,rfl,rfl⟩
theorem zcz3 {p:POp} {st:St} {K:A→List (Nat×MS)→Prop} (h:aopS C p st.toS st.nx K):aopS C p st.toS st.nx (fun v mw=>mwOk st.nx mw∧K v mw):=by
 unfold aopS at h ⊢
 simp only [St.toS] at h ⊢
 cases hg:zH3 st.slot p.g with
 | none=>simp [hg] at h
 | some g =>
  simp only [hg] at h ⊢
  cases hp:p.po <;> simp only [hp] at h ⊢
  case pick =>
   split at h
   ·split at h
    ·exact ⟨h.1,trivial,h.2⟩
    ·exact h.elim
   ·exact h.elim
  case call f =>
   obtain ⟨r,h1,h2,h3⟩:=h
   exact ⟨r,h1,h2,zaJ0 st _ _,h3⟩
  case callv =>
   split at h
   ·obtain ⟨r,h1,h2,h3⟩:=h
    exact ⟨r,h1,h2,zaJ0 st _ _,h3⟩
   ·exact h.elim
  case callm f=>exact zbc6 h
  case callvm =>
   split at h
   ·exact zbc6 h
   ·exact h.elim
  all_goals
   split at h
   ·rename_i ef hev
    obtain ⟨h1,h2,h3⟩:=h
    exact ⟨h1,h2,zbL6 hev,h3⟩
   ·exact ⟨h.1,h.2.1,trivial,h.2.2⟩
theorem zaz6 {m m2:Nat→MS} {x:A} (h:∀ y ∈ zaL4 x,m y=m2 y):frz1 m x=frz1 m2 x∧(zag3 m x ↔ zag3 m2 x):=by
 cases x <;> first|exact ⟨rfl,Iff.rfl⟩|skip
 rename_i y lo n
 have:=h y (by simp [zaL4,zaw2])
 simp only [frz1,zag3,this,and_self]
theorem zbg4 {x:A}:∀ y ∈ zag4 x,y ∈ idsA x:=by
 cases x <;> intro y hy <;> first|(simp [zag4,zI3] at hy; done)|skip
 ·rename_i z lo n; simpa [zag4,zI3,idsA,zaL4,zaw2] using hy
 ·rename_i cs
  simp only [zag4,idsA] at hy ⊢
  split at hy
  ·cases hy
  ·rename_i hp
   rw [if_neg hp]
   obtain ⟨c,hc,hy⟩:=List.mem_flatMap.1 hy
   refine List.mem_flatMap.2 ⟨c,hc,?_⟩
   cases c <;> simp [zI3] at hy
   subst hy; simp [zaL4,zaw2]
theorem zbt5 {m m2:Nat→MS} {x:A} (h:∀ y ∈ idsA x,m y=m2 y):frz m x=frz m2 x∧(zak6 m x ↔ zak6 m2 x):=by
 cases x with
 | agg cs =>
  simp only [frz,zak6]
  split
  ·exact ⟨rfl,Iff.rfl⟩
  ·rename_i hp
   simp only [idsA,if_neg hp] at h
   have h2:∀ c ∈ cs,∀ y ∈ zaL4 c,m y=m2 y:=fun c hc y hy=>h y (List.mem_flatMap.2 ⟨c,hc,hy⟩)
   exact ⟨by rw [List.map_congr_left fun c hc=>(zaz6 (h2 c hc)).1],⟨fun hh c hc=>(zaz6 (h2 c hc)).2.1 (hh c hc),fun hh c hc=>(zaz6 (h2 c hc)).2.2 (hh c hc)⟩⟩
 | own x lo n=>exact zaz6 (x:=.own x lo n) h
 | _=>exact ⟨rfl,Iff.rfl⟩
theorem zaz7 {m m2:Nat→MS}:∀ {xs:List A},(∀ y ∈ zw8 xs,m y=m2 y)→zJ6 m xs=zJ6 m2 xs∧(zA0 m xs ↔ zA0 m2 xs)
 | [],_=>⟨rfl,Iff.rfl⟩
 | x :: xs,h=>by
  obtain ⟨h1,h2⟩:=zbt5 (x:=x) fun y hy=>h y (List.mem_append_left _ hy)
  obtain ⟨h3,h4⟩:=zaz7 (xs:=xs) fun y hy=>h y (List.mem_append_right _ hy)
  simp only [zJ6,zA0,h1,h2,h3,h4,and_self]
theorem zat3 {m m2:Nat→MS}:∀ {xs:List Nat},(∀ y ∈ xs,m y=m2 y)→zO1 m xs=zO1 m2 xs
 | [],_=>rfl
 | x :: xs,h=>by simp only [zO1,h x (.head _),zat3 fun y hy=>h y (.tail _ hy)]
theorem zau7:∀ {xs:List A},∀ y ∈ zA1 xs,y ∈ zw8 xs
 | x :: xs,y,hy=>by
  rcases List.mem_append.1 hy with h|h
  ·exact List.mem_append_left _ (zbg4 y h)
  ·exact List.mem_append_right _ (zau7 y h)
theorem zbM8:∀ {vs as:List A},∀ y ∈ fzM vs as,y ∈ zw8 vs
 | v :: vs,a :: as,y,hy=>by
  rcases List.mem_append.1 hy with h|h
  ·split at h
   ·cases h
   ·exact List.mem_append_left _ (zbg4 y h)
  ·exact List.mem_append_right _ (zbM8 y h)
 | [],[],y,hy=>by cases hy
 | _ :: _,[],y,hy=>by cases hy
 | [],_ :: _,y,hy=>by cases hy
theorem zaY9 {m m2:Nat→MS} {l:List (Nat×Nat)} {k:Nat}:∀ {vs as:List A},(∀ y ∈ zw8 vs,m y=m2 y)→zaP6 m l k vs as→zaP6 m2 l k vs as
 | v :: vs,a :: as,h,h1=>by
  refine ⟨?_,zaY9 (fun y hy=>h y (List.mem_append_right _ hy)) h1.2⟩
  obtain ⟨h3,h4⟩:=zbt5 (x:=v) fun y hy=>h y (List.mem_append_left _ hy)
  have h2:=h1.1
  unfold argM at h2 ⊢
  split
  ·rename_i hh; rw [if_pos hh] at h2; exact h2
  ·rename_i hh; rw [if_neg hh] at h2; exact ⟨h4.1 h2.1,h3 ▸ h2.2⟩
 | [],[],_,_=>trivial
 | _ :: _,[],_,h=>h.elim
 | [],_ :: _,_,h=>h.elim
theorem zaZ0 {m m2:Nat→MS} {l:List (Nat×Nat)} {k:Nat} {fz:List Nat}:∀ {ms:List (Nat×Row)},(∀ q ∈ ms,m (rho l q.1)=m2 (rho l q.1))→zbs4 m l k fz ms→zbs4 m2 l k fz ms
 | [],_,_=>trivial
 | q :: ms,h,h1=>by
  obtain ⟨h2,h3,h4,h5,h6,h7⟩:=h1
  exact ⟨by rw [← h q (.head _)]; exact h2,h3,h4,h5,h6,zaZ0 (fun p hp=>h p (.tail _ hp)) h7⟩
theorem zaN0 {L:List (Nat×Nat)} {ms':List (Nat×Row)}:∀ {ids:List Nat},∀ x ∈ ids,rho L x ∈ (zab4 L ms' ids).map (·.1)
 | y :: ids,x,h=>by
  rcases List.mem_cons.1 h with rfl|h
  ·exact .head _
  ·exact .tail _ (zaN0 x h)
theorem zaZ1 {m m2:Nat→MS}:∀ {mw:List (Nat×MS)},(∀ y ∈ mw.map (·.1),m y=m2 y)→zaP7 m mw→zaP7 m2 mw
 | [],_,_=>trivial
 | q :: r,h,⟨h1,h3⟩=>⟨by rw [← h q.1 (.head _)]; exact h1,zaZ1 (fun y hy=>h y (.tail _ hy)) h3⟩
theorem zaZ2 {f:FuncId} {m m2:Nat→MS} {id:Nat} {vals:List A} {og:Option (Nat×Bool)} {g:Bool} {ob:Prop} {v:A} {mw:List (Nat×MS)} (h1:∀ y ∈ zw8 vals,m y=m2 y) (h2:∀ y ∈ mw.map (·.1),m y=m2 y)
  (h:zas9 C m id f vals og g ob (fun n=>∀ x,id≤x→x < id+n→m x=.fresh) (fun v' mw'=>v'=v∧mw'=mw)) :
  zas9 C m2 id f vals og g ob (fun n=>∀ x,id≤x→x < id+n→m2 x=.fresh) (fun v' mw'=>v'=v∧mw'=mw):=by
 obtain ⟨l,as,ms,k,r,ms',k',ht,hf,hvv,h5,h7,h8⟩:=h
 have e0:mwM m2 (l++newL k id (k' - k)) vals as ms ms' k k'=mw:=by rw [← h8,mwM,mwM,zat3 fun y hy=>h1 y (zbM8 y hy)]
 refine ⟨l,as,ms,k,r,ms',k',fun hg=>?_,fun hg=>?_,hvv,h5,h7,e0⟩
 case refine_2 =>
  rw [e0]; rw [h8] at hf
  exact ⟨(hf hg).1,zaZ1 h2 (hf hg).2⟩
 obtain ⟨hob,h3,h4,h6⟩:=ht hg
 obtain ⟨g1,g2,g3,g4,g5,g6,g7,g8⟩:=h4
 have hkk:k≤k':=Nat.le_of_ble_eq_true g6
 have key:∀ x ∈ ms.map (·.1)++(List.range (k' - k)).map (k+·),m (rho (l++newL k id (k' - k)) x)=m2 (rho (l++newL k id (k' - k)) x):=fun x hx=>by
  refine h2 _ ?_
  rw [← h8,mwM,List.map_append]
  exact List.mem_append_right _ (zaN0 x hx)
 have rhoOld:∀ x,x < k→rho (l++newL k id (k' - k)) x=rho l x:=fun x hx=>by
  simp only [rho,zS3,zaf0]
  rw [if_neg (by omega),Option.or_none]
 have rhoNew:∀ i,i < k' - k→rho (l++newL k id (k' - k)) (k+i)=id+i:=fun i hi=>by
  simp only [rho,zS3,zaf0]
  rw [zav6 fun q hq=>by have:=g8 q hq; omega,if_pos (by omega)]
  simp
 refine ⟨hob,h3,⟨zaY9 h1 g1,zaZ0 (fun q hq=>?_) g2,g3,g4,g5,g6,g7,g8⟩,fun x hx hx2=>?_⟩
 ·have:=key q.1 (List.mem_append_left _ (List.mem_map.2 ⟨q,hq,rfl⟩))
  rwa [rhoOld q.1 (zav8 g2 q.1 q.2 hq).2.2.1] at this
 ·have:=key (k+(x - id)) (List.mem_append_right _ (List.mem_map.2 ⟨x - id,List.mem_range.2 (by omega),rfl⟩))
  rw [rhoNew _ (by omega),show id+(x - id)=x by omega] at this
  rw [← this]; exact h6 x hx hx2
theorem zbp0 (x y:List A):zw8 (x++y)=zw8 x++zw8 y:=by
 induction x with
 | nil=>rfl
 | cons a x ih=>simp only [List.cons_append,zw8,ih,List.append_assoc]
theorem zaZ3 {y:Nat}:∀ {caps:List A},(∀ c ∈ caps,idsA c=zaw2 c)→y ∈ zw8 caps→y ∈ caps.flatMap zaw2
 | c :: cs,hc,h=>by
  rcases List.mem_append.1 h with h|h
  ·exact List.mem_flatMap.2 ⟨c,.head _,hc c (.head _) ▸ h⟩
  ·obtain ⟨d,hd,h2⟩:=List.mem_flatMap.1 (zaZ3 (fun d hd=>hc d (.tail _ hd)) h)
   exact List.mem_flatMap.2 ⟨d,.tail _ hd,h2⟩
theorem zaZ4 {f:FuncId} {caps vals:List A} {y:Nat} (h:y ∈ zw8 (vals++caps)) (hc:∀ c ∈ caps,idsA c=zaw2 c):y ∈ zw8 (.clo f caps :: vals):=by
 rw [zbp0] at h
 simp only [zw8,List.mem_append]
 rcases List.mem_append.1 h with h|h
 ·exact .inr h
 ·exact .inl (zaZ3 hc h)
theorem zbV8 {id:Nat} {m m2:Nat→MS} {po:PO} {vals:List A} (h:∀ y ∈ zw8 vals,m y=m2 y):ev id m po vals=ev id m2 po vals:=by
 have e1:∀ {x:A} {xs:List A},vals=x :: xs→(∀ y ∈ idsA x,m y=m2 y):=fun hv y hy=>h y (by rw [hv]; exact List.mem_append_left _ hy)
 have e2:∀ {x x2:A} {xs:List A},vals=x :: x2 :: xs→(∀ y ∈ idsA x2,m y=m2 y):=fun hv y hy=>h y (by rw [hv]; exact List.mem_append_right _ (List.mem_append_left _ hy))
 have own:∀ {x:Nat} {lo n:Nat} ,(∀ y ∈ idsA (.own x lo n),m y=m2 y)→m x=m2 x:=fun hh=>hh _ (by simp [idsA,zaL4,zaw2])
 have ptr:∀ {x:Nat} {lo n:Nat} ,(∀ y ∈ idsA (.ptr x lo n),m y=m2 y)→m x=m2 x:=fun hh=>hh _ (by simp [idsA,zaL4,zaw2])
 have hel:∀ {x:A},(∀ y ∈ idsA x,m y=m2 y)→zas5 m x=zas5 m2 x∧zac7 m x=zac7 m2 x:=fun {x} hh=>by
  cases x <;> first|exact ⟨rfl,rfl⟩|skip
  simp only [zas5,zac7,own hh,and_self]
 have hsl:∀ {x:A} {sz:Nat} {lo hi mx:Option Int},(∀ y ∈ idsA x,m y=m2 y)→zah9 m sz x lo hi mx=zah9 m2 sz x lo hi mx:=fun {x sz lo hi mx} hh=>by
  cases x <;> cases mx <;> first|rfl|(simp only [zah9,own hh])
 cases po
 case slc sz lo hi mx =>
  rcases vals with _|⟨x,_|⟨x2,_|⟨x3,_|⟨x4,_|⟨x5,xs⟩⟩⟩⟩⟩
  ·cases lo <;> cases hi <;> cases mx <;> rfl
  ·have hx:=e1 rfl
   have:=fun {lo hi mx}=>hsl (sz:=sz) (lo:=lo) (hi:=hi) (mx:=mx) hx
   cases lo <;> cases hi <;> cases mx <;> first|rfl|(simp only [ev,this])
  ·have hx:=e1 rfl
   have:=fun {lo hi mx}=>hsl (sz:=sz) (lo:=lo) (hi:=hi) (mx:=mx) hx
   cases lo <;> cases hi <;> cases mx <;> cases x2 <;> first|rfl|(simp only [ev,this])
  ·have hx:=e1 rfl
   have:=fun {lo hi mx}=>hsl (sz:=sz) (lo:=lo) (hi:=hi) (mx:=mx) hx
   cases lo <;> cases hi <;> cases mx <;> cases x2 <;> cases x3 <;> first|rfl|(simp only [ev,this])
  ·have hx:=e1 rfl
   have:=fun {lo hi mx}=>hsl (sz:=sz) (lo:=lo) (hi:=hi) (mx:=mx) hx
   cases lo <;> cases hi <;> cases mx <;> first|rfl|(cases x2 <;> first|rfl|(cases x3 <;> first|rfl|(cases x4 <;> first|rfl|(simp only [ev,this]))))
  ·cases lo <;> cases hi <;> cases mx <;> first|rfl|(cases x2 <;> first|rfl|(cases x3 <;> first|rfl|(cases x4 <;> rfl)))
 case slcS lo hi =>
  rcases vals with _|⟨x,_|⟨x2,_|⟨x3,_|⟨x4,xs⟩⟩⟩⟩ <;> cases lo <;> cases hi <;> first|rfl|(cases x <;> first|rfl|(cases x2 <;> first|rfl|(cases x3 <;> rfl)))
 case cvS =>
  rcases vals with _|⟨x,_|⟨x2,xs⟩⟩ <;> first|rfl|skip
  obtain ⟨g1,g2⟩:=hel (e1 rfl)
  simp only [ev,g1,g2]
 case append sz bytes z =>
  rcases vals with _|⟨x,_|⟨x2,_|⟨x3,xs⟩⟩⟩ <;> first|rfl|skip
  have hx:=e1 rfl
  obtain ⟨g1,g2⟩:=hel (e2 rfl)
  simp only [ev,g1,g2]
  cases x <;> first|rfl|skip
  have e:=own hx
  simp only [e]
 case clear sz z =>
  rcases vals with _|⟨x,_|⟨x2,xs⟩⟩ <;> first|rfl|skip
  have hx:=e1 rfl
  simp only [ev]
  cases x <;> first|rfl|skip
  have e:=own hx
  simp only [e]
 case copy sz =>
  rcases vals with _|⟨x,_|⟨x2,_|⟨x3,xs⟩⟩⟩ <;> first|rfl|skip
  have hx:=e1 rfl
  obtain ⟨g1,g2⟩:=hel (e2 rfl)
  simp only [ev,g1,g2]
  cases x <;> first|rfl|skip
  have e:=own hx
  simp only [e]
 case load n ag =>
  rcases vals with _|⟨x,_|⟨x2,xs⟩⟩ <;> first|rfl|skip
  have hx:=e1 rfl
  cases x <;> first|rfl|skip
  have e:=ptr hx
  simp only [ev,e]
 case store n =>
  rcases vals with _|⟨x,_|⟨x2,_|⟨x3,xs⟩⟩⟩ <;> first|rfl|skip
  have hx:=e1 rfl
  cases x <;> first|rfl|skip
  have e:=ptr hx
  simp only [ev,e]
 case faddr off =>
  rcases vals with _|⟨x,_|⟨x2,xs⟩⟩ <;> first|rfl|skip
  have hx:=e1 rfl
  cases x <;> first|rfl|skip
  have e:=ptr hx
  simp only [ev,e]
 case nilck =>
  rcases vals with _|⟨x,_|⟨x2,xs⟩⟩ <;> first|rfl|skip
  have hx:=e1 rfl
  cases x <;> first|rfl|skip
  have e:=ptr hx
  simp only [ev,e]
 case len =>
  rcases vals with _|⟨x,_|⟨x2,xs⟩⟩ <;> first|rfl|skip
  have hx:=e1 rfl
  cases x <;> first|rfl|skip
  have e:=own hx
  simp only [ev,e]
 case iaA n sz =>
  rcases vals with _|⟨x,_|⟨x2,_|⟨x3,xs⟩⟩⟩ <;> first|rfl|(cases x2 <;> rfl)|skip
  have hx:=e1 rfl
  cases x2 <;> first|rfl|skip
  cases x <;> first|rfl|skip
  have e:=ptr hx
  simp only [ev,e]
 case iaS sz z =>
  rcases vals with _|⟨x,_|⟨x2,_|⟨x3,xs⟩⟩⟩ <;> first|rfl|(cases x2 <;> rfl)|skip
  have hx:=e1 rfl
  cases x2 <;> first|rfl|skip
  cases x <;> first|rfl|skip
  have e:=own hx
  simp only [ev,e]
 all_goals first
  | rfl
  | (rcases vals with _|⟨x,_|⟨x2,_|⟨x3,xs⟩⟩⟩ <;> first|rfl|(cases x <;> first|rfl|(cases x2 <;> rfl)))
theorem zaZ5 {fr f2:Nat→A}:∀ (xs:List PX),(∀ t ∈ rdsX xs,fr t=f2 t)→zE2 C fr xs=zE2 C f2 xs∧(gdsF C fr xs ↔ gdsF C f2 xs)
 | [],_=>⟨rfl,Iff.rfl⟩
 | x :: xs,h=>by
  have h1:=zak8 (x:=x) C.G (f:=fr) (g:=f2) fun t ht=>h t ((zI5 x xs t).2 (.inl ht))
  obtain ⟨h2,h3⟩:=zaZ5 xs fun t ht=>h t ((zI5 x xs t).2 (.inr ht))
  simp only [zE2,gdsF,h1,h2,h3,and_self]
theorem zbH3 {p:POp} {s s2:S} {id:Nat} {v:A} {mw:List (Nat×MS)} (hr:∀ t ∈ p.rds,s.fr t=s2.fr t) (hm:∀ y ∈ zw8 (zE2 C s.fr p.xs),s.mem y=s2.mem y) (hw:∀ y ∈ mw.map (·.1),s.mem y=s2.mem y)
  (hcap:∀ f caps vals,(p.po=.callv∨p.po=.callvm)→zE2 C s.fr p.xs=.clo f caps :: vals→∀ c ∈ caps,idsA c=zaw2 c)
  (h:aopS C p s id (fun v' mw'=>v'=v∧mw'=mw)):aopS C p s2 id (fun v' mw'=>v'=v∧mw'=mw):=by
 have hx:∀ t ∈ rdsX p.xs,s.fr t=s2.fr t:=fun t ht=>hr t (List.mem_append_right _ ht)
 obtain ⟨hv,hgd⟩:=zaZ5 (C:=C) p.xs hx
 have hgo:zH3 s2.fr p.g=zH3 s.fr p.g:=by
  cases hg:p.g with
  | none=>rfl
  | some q=>simp only [zH3]; rw [hr q.1 (List.mem_append_left _ (by simp [hg]))]
 obtain ⟨hf1,hf2⟩:=zaz7 hm
 have hcm:∀ r,zF3 s.mem (zE2 C s.fr p.xs) r=zF3 s2.mem (zE2 C s.fr p.xs) r:=fun r=>by
  simp only [zF3,zat3 fun y hy=>hm y (zau7 y hy)]
 unfold aopS at h ⊢
 rw [hgo,← hv,← hgd]
 cases hg:zH3 s.fr p.g with
 | none=>simp [hg] at h
 | some g =>
  simp only [hg] at h ⊢
  cases hp:p.po <;> simp only [hp] at h ⊢
  case pick =>
   split at h
   ·rename_i c x y hxs
    simp only [hxs] at hx ⊢
    have e1:=zak8 (x:=c) C.G (f:=s.fr) (g:=s2.fr) fun t ht=>hx t ((zI5 _ _ _).2 (.inl ht))
    have e2:=zak8 (x:=x) C.G (f:=s.fr) (g:=s2.fr) fun t ht=>hx t ((zI5 _ _ _).2 (.inr ((zI5 _ _ _).2 (.inl ht))))
    have e3:=zak8 (x:=y) C.G (f:=s.fr) (g:=s2.fr) fun t ht=>hx t ((zI5 _ _ _).2 (.inr ((zI5 _ _ _).2 (.inr ht))))
    rw [← e1,← e2,← e3]
    exact h
   ·exact h.elim
  case call f =>
   rw [← hf1,← hf2]
   obtain ⟨r,h1,h2,h3⟩:=h
   exact ⟨r,h1,by rw [← hcm]; exact h2,by rw [← hcm]; exact h3⟩
  case callv =>
   split at h
   ·rename_i f caps vals hvals
    have hc:=hcap f caps vals (.inl hp) hvals
    have hm2:∀ y ∈ zw8 (vals++caps),s.mem y=s2.mem y:=fun y hy=>hm y (by rw [hvals]; exact zaZ4 hy hc)
    obtain ⟨g1,g2⟩:=zaz7 hm2
    have hcm2:∀ r,zF3 s.mem (vals++caps) r=zF3 s2.mem (vals++caps) r:=fun r=>by
     simp only [zF3,zat3 fun y hy=>hm2 y (zau7 y hy)]
    obtain ⟨r,h1,h2,h3⟩:=h
    rw [← g1,← g2]
    exact ⟨r,h1,by rw [← hcm2]; exact h2,by rw [← hcm2]; exact h3⟩
   ·exact h.elim
  case callm f=>exact zaZ2 hm hw h
  case callvm =>
   split at h
   ·rename_i f caps vals hvals
    have hc:=hcap f caps vals (.inr hp) hvals
    exact zaZ2 (fun y hy=>hm y (by rw [hvals]; exact zaZ4 hy hc)) hw h
   ·exact h.elim
  all_goals
   rw [← zbV8 (id:=id) hm]
   exact h
theorem zfd0 {id:Nat} {m:Nat→MS} {po:PO} {vals:List A} {ef:Ef} (h:ev id m po vals=some ef):id ∈ ef.mw.map (·.1)∨∀ id',ev id' m po vals=some ef:=by
 cases po
 case nilown sz z=>rcases vals with _|⟨x,_|⟨x2,xs⟩⟩ <;> cases h; exact .inl (by simp)
 case box n=>rcases vals with _|⟨x,_|⟨x2,xs⟩⟩ <;> cases h; exact .inl (by simp)
 case alloc n z=>rcases vals with _|⟨x,xs⟩ <;> cases h; exact .inl (by simp)
 case bown sz z=>simp only [ev,Option.some.injEq] at h; subst h; exact .inl (by simp)
 case mk sz b z =>
  rcases vals with _|⟨x,_|⟨x2,_|⟨x3,xs⟩⟩⟩ <;> first|(cases h; done)|(cases x <;> cases h; done)|skip
  ·cases x <;> cases x2 <;> cases h; exact .inl (by simp)
  ·cases x <;> cases x2 <;> cases h
 case append sz b z =>
  rcases vals with _|⟨x,_|⟨x2,_|⟨x3,xs⟩⟩⟩ <;> first|(cases h; done)|skip
  simp only [ev,Option.bind_eq_some_iff] at h
  obtain ⟨new,hnew,h⟩:=h
  cases x <;> simp only [] at h <;> first|(cases h; done)|skip
  ·cases h; exact .inl (by simp)
  ·split at h
   ·cases h; exact .inl (by simp)
   ·cases h
 all_goals
  refine .inr fun id'=>?_
  rw [← h]
  first
   | rfl
   | (rename_i lo hi mx; cases lo <;> cases hi <;> cases mx <;> rcases vals with _|⟨x,_|⟨x2,_|⟨x3,_|⟨x4,_|⟨x5,xs⟩⟩⟩⟩⟩ <;> first|rfl|(cases x2 <;> first|rfl|(cases x3 <;> first|rfl|(cases x4 <;> rfl))))
   | (rename_i lo hi; cases lo <;> cases hi <;> rcases vals with _|⟨x,_|⟨x2,_|⟨x3,_|⟨x4,xs⟩⟩⟩⟩ <;> first|rfl|(cases x <;> first|rfl|(cases x2 <;> first|rfl|(cases x3 <;> rfl))))
   | (rcases vals with _|⟨x,_|⟨x2,_|⟨x3,xs⟩⟩⟩ <;> first|rfl|(cases x <;> first|rfl|(cases x2 <;> rfl))|(cases x2 <;> rfl))
theorem zcz4 {p:POp} {s:S} {id:Nat} {v:A} {mw:List (Nat×MS)} (h:aopS C p s id (fun v' mw'=>v'=v∧mw'=mw)):id ∈ mw.map (·.1)∨∀ id',id≤id'→aopS C p s id' (fun v' mw'=>v'=v∧mw'=mw):=by
 have cm:∀ {f:FuncId} {vals:List A} {og:Option (Nat×Bool)} {g:Bool} {ob:Prop},zas9 C s.mem id f vals og g ob (fun n=>∀ x,id≤x→x < id+n→s.mem x=.fresh) (fun v' mw'=>v'=v∧mw'=mw) →
   id ∈ mw.map (·.1)∨∀ id',id≤id'→zas9 C s.mem id' f vals og g ob (fun n=>∀ x,id'≤x→x < id'+n→s.mem x=.fresh) (fun v' mw'=>v'=v∧mw'=mw):=fun {f vals og g ob} h=>by
  obtain ⟨l,as,ms,k,r,ms',k',ht,hf,hvv,h5,h7,h8⟩:=h
  by_cases hk:k=k'
  ·have en:∀ id',newL k id' (k' - k)=[]:=fun id'=>by rw [hk,Nat.sub_self]; rfl
   simp only [en] at hf hvv h7 h8
   refine .inr fun id' hid=>⟨l,as,ms,k,r,ms',k',fun hg=>?_,?_⟩
   ·obtain ⟨hob,h3,h4,h6⟩:=ht hg
    obtain ⟨g1,g2,g3,g4,g5,g6,g7,g8⟩:=h4
    exact ⟨hob,h3,⟨g1,g2,g3,g4,g5,g6,fun q hq=>Nat.lt_of_lt_of_le (g7 q hq) hid,g8⟩,fun x hx hx2=>by omega⟩
   ·simp only [en]
    exact ⟨hf,hvv,h5,h7,h8⟩
  ·have hg:g=true:=by
    cases g with
    | true=>rfl
    | false=>exact absurd (hf rfl).1 hk
   obtain ⟨hob,h3,h4,h6⟩:=ht hg
   obtain ⟨g1,g2,g3,g4,g5,g6,g7,g8⟩:=h4
   have hkk:k≤k':=Nat.le_of_ble_eq_true g6
   left
   rw [← h8,mwM,List.map_append]
   refine List.mem_append_right _ ?_
   have:=zaN0 (L:=l++newL k id (k' - k)) (ms':=ms') (ids:=ms.map (·.1)++(List.range (k' - k)).map (k+·)) (k+0) (List.mem_append_right _ (List.mem_map.2 ⟨0,List.mem_range.2 (by omega),rfl⟩))
   have e:rho (l++newL k id (k' - k)) (k+0)=id+0:=by
    simp only [rho,zS3,zaf0]
    rw [zav6 fun q hq=>by have:=g8 q hq; omega,if_pos (by omega)]
    simp
   rw [e] at this
   exact this
 unfold aopS at h ⊢
 cases hg:zH3 s.fr p.g with
 | none=>simp [hg] at h
 | some g =>
  simp only [hg] at h ⊢
  cases hp:p.po <;> simp only [hp] at h ⊢
  case pick=>exact .inr fun _ _=>h
  case call f=>exact .inr fun _ _=>h
  case callv=>exact .inr fun _ _=>h
  case callm f =>
   exact cm h
  case callvm =>
   split at h
   ·exact cm h
   ·exact h.elim
  all_goals
   split at h
   ·rename_i ef hev
    obtain ⟨h1,h2,h3,h4⟩:=h
    rcases zfd0 hev with g1|g1
    ·exact .inl (h4 ▸ g1)
    ·exact .inr fun id' _=>by rw [g1 id']; exact ⟨h1,h2,h3,h4⟩
   ·rename_i hev
    exact .inr fun id' _=>by rw [← zeH5 (id:=id) h.2.1,hev]; exact h
end
end Ab
end Go.Proofs.YtebopmkhhppfaaaGreatDoor
