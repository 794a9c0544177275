import Derived.Test.YtcggeefhhegeoaaGreatDoorCode
namespace Go.Proofs.YtcggeefhhegeoaaGreatDoor
namespace Ab
set_option linter.unusedSimpArgs false
set_option linter.unusedVariables false
class OkP {α:Type} (m:Option α) (f:outParam FuncId) (av:outParam (List A)) (R:outParam (α→A)):Prop where
  ok:∀ r,m=some r→PFn C f av (R r)
class OkM {α:Type} (m:Option α) (f:outParam FuncId) (av:outParam (List A)) (ms:outParam (List (Nat×Row))) (k:outParam Nat) (R:outParam (α→A)) (ms':outParam (α→List (Nat×Row))) (k':outParam Nat):Prop where
  ok:∀ r,m=some r→MFn C f av ms k (R r) (ms' r) k'
class OkT (f:FuncId) (av:List A) (r:outParam A):Prop where
  ok:PFn C f av r
class OkL {α β:Type} (m:Option (α⊕β)) (f:outParam FuncId) (av:outParam (List A)) (ms:outParam (List (Nat×Row))) (k:outParam Nat) (R:outParam (α→A)) (ms':outParam (α→List (Nat×Row))) (k':outParam Nat):Prop where
  ok:∀ r,m=some (.inl r)→MFn C f av ms k (R r) (ms' r) k'
class OkR {α β:Type} (m:Option (α⊕β)) (f:outParam FuncId) (av:outParam (List A)) (ms:outParam (List (Nat×Row))) (k:outParam Nat) (R:outParam (β→A)) (ms':outParam (β→List (Nat×Row))) (k':outParam Nat):Prop where
  ok:∀ r,m=some (.inr r)→MFn C f av ms k (R r) (ms' r) k'
theorem zaM3 {T:Type} {P:T→Prop} {fr:Nat→T} (h0:P (fr 0)) (hs:∀ n,P (fr n)→P (fr (n+1))):∀ n,P (fr n)
  | 0=>h0
  | n+1=>hs n (zaM3 h0 hs n)
def Mk {α:Type} (x:α):Prop:=True
theorem mkP {α β:Type} {x:α} (hm:Mk x) (v:β):Mk (x,v):=trivial
class JS {α:Type} (x:α) (id:Nat) {γ:outParam Type} {V:outParam Type} (k k':outParam (V→γ)) (J:outParam (V→St)):Prop where
  e:∀ v,k v=k' v
class LS {α G X:Type} (x:α) (b:G→Option (G⊕X)) (b':outParam (G→Option (G⊕X))) (I:outParam (G→St)):Prop where
  e:∀ v,b v=b' v
theorem mkJ {α:Type} (x:α) (id:Nat) {γ V:Type} {k k':V→γ} (e:∀ v,k v=k' v) (J:V→St):JS x id k k' J:=⟨e⟩
theorem mkL {α G X:Type} (x:α) {b b':G→Option (G⊕X)} (e:∀ v,b v=b' v) (I:G→St):LS x b b' I:=⟨e⟩
def prA:A→A→List (Nat×Nat)
  | .ptr x _ _,.ptr y _ _=>[(y,x)]
  | .own x _ _,.own y _ _=>[(y,x)]
  | _,_=>[]
def prC:List A→List A→List (Nat×Nat)
  | a :: r,b :: s=>prA a b++prC r s
  | _,_=>[]
def prE:List (List A)→List (List A)→List (Nat×Nat)
  | a :: r,b :: s=>prC a b++prE r s
  | _,_=>[]
def prS (s:List (Nat×A)):List (Nat×A)→List (Nat×Nat)
  | []=>[]
  | q :: r=>(match look s q.1 with|some b=>prA b q.2|none=>[])++prS s r
def prM (m:List (Nat×Row)) (l:List (Nat×Nat)):List (Nat×Row)→List (Nat×Nat)
  | []=>[]
  | q :: r=>(match look l q.1 with|some x=>(match look m x with|some w=>prE w.es q.2.es|none=>[])|none=>[])++prM m l r
def ptS (s:List (Nat×A)):List (Nat×A)→List (Nat×Nat)
  | []=>[]
  | q :: r=>(match q.2,look s q.1 with|.ptr y _ _,some (.ptr x _ _)=>[(y,x)]|_,_=>[])++ptS s r
def idL:Nat→List (Nat×Nat)
  | 0=>[]
  | n+1=>idL n++[(n,n)]
def rl (k:Nat) (b:Bool) (s J:St):List (Nat×Nat):=idL k++prS s.fr J.fr++if b then prM s.mem (idL k++ptS s.fr J.fr) J.mem else []
def ptC:List A→List A→List (Nat×Nat)
  | .ptr x _ _ :: r,.ptr y _ _ :: s=>(y,x) :: ptC r s
  | _ :: r,_ :: s=>ptC r s
  | _,_=>[]
def cl (b:Bool) (vals av:List A) (m ms:List (Nat×Row)):List (Nat×Nat):=prC vals av++if b then prM m (ptC vals av) ms else []
theorem lv {p:Prop} (w:p:=by
  (simp only [go_sem,↓reduceIte,reduceCtorEq,Nat.reduceEqDiff,Nat.reduceAdd,Nat.reduceSub,Nat.reduceMul,Nat.reduceLeDiff,Nat.reduceLT,Int.reduceLE,Int.reduceLT,Int.reduceToNat,Int.reduceNeg]
   first
   | (done)
   | trivial
   | (simp; done)
   | ((repeat' (first|rfl|trivial|omega|(simp; done)|(simp; omega)|(congr 1; omega)|(congr 1; simp only [cA,dG,dS,gP]; omega)|apply And.intro)) <;> fail))):p:=w
section
variable {E:Env} {Q:Exit→St→Prop} {st:St} {q:Prop}
theorem isAW {c:PC} (h:AW C E c Q st):AW C E c Q st:=h
theorem zdc5 {f:FuncId} {d:Option Nat} {g:Option (Nat×Bool)} {gv:Bool} {ob:Prop} {args:List A} {rw:List (Nat×MS)} {ps:List POp} {st:St} {K:St→Prop} (h:zbH0 C f d g gv ob args rw ps st K):zbH0 C f d g gv ob args rw ps st K:=h
theorem zcK5 {f:FuncId} {d:Option Nat} {g:Option (Nat×Bool)} {gv:Bool} {ob:Prop} {args:List A} {rw:List (Nat×MS)} {ps:List POp} {st:St} {K:St→Prop} (h:zbg8 C f d g gv ob args rw ps st K):zbg8 C f d g gv ob args rw ps st K:=h
theorem zaj4 {α γ V:Type} {x:α} {id:Nat} {k k':V→γ} {J:V→St} {R:γ} {c:PC} {m:γ} (hm:Mk x) (h:m=R) [i:JS x id k k' J]
    (hk:∀ v,Mk (k v)→k' v=R→Q .normal (J v)) (hb:AW C E c (BlkJ E id J (fun v=>k v=R) Q) st):AW C E (.block id c) Q st :=
  zO2 J _ (fun v e=>hk v trivial (by rw [← i.e]; exact e)) hb
theorem zds3 {α γ V:Type} {z:α} {k k':V→γ} {J:V→St} {x:PX} {p q:PC} {b c:Bool} {X Y r:γ} (hm:Mk z) (hx:xv C.G st.slot x=.bool b) (hG:E.G=C.G) (h:(if c=true then X else Y)=r) [i:JS z 999 k k' J]
    (hk:∀ v,Mk (k v)→k' v=r→Q .normal (J v)) (ht:b=true→X=r→AW C E p (zbp0 E J (fun v=>k v=r) Q) st) (hf:b=false→Y=r→AW C E q (zbp0 E J (fun v=>k v=r) Q) st) (e:b=c:=by first|rfl|(simp; done)|grind):AW C E (.cond x p q) Q st :=
  zaZ3 J _ hx hG h (fun v e=>hk v trivial (by rw [← i.e]; exact e)) ht hf e
theorem zdc6 {α:Type} {x:α} {c:PC} {G X β:Type} {body body':G→Option (G⊕X)} {I:G→St} {g0:G} {kk:X→Option β} {r:β} {k:Nat} {l:List (Nat×Nat)} (hm:Mk x) (hK:E.k0=k) (h:(zc0 body g0).bind kk=some r) [i:LS x body body' I]
    (hb:∀ g y,Mk (body g)→(∀ x',y=.inr x'→Mk x∧kk x'=some r)→body' g=some y→AW C E c (zbH1 E I y Q) (I g))
    (b:Bool) (hl:rl k b st (I g0)=l:=by ((conv=>lhs; reduce) <;> exact rfl))
    (hle:Le l st (I g0)∧zaF8 k l (I g0).nx=true:=by exact lv):AW C E (.loop c) Q st:=by
  obtain ⟨x,hx,hk⟩:=zc2 h
  refine zck1 I hK _ hx hle fun g y hy hz=>hb g y trivial (fun x' e=>⟨hm,?_⟩) (by rw [← i.e]; exact hy)
  rw [hz x' e]; exact hk
theorem zds4 {α:Type} {x:α} {c:PC} {G X β:Type} {body body':G→Option (G⊕X)} {I:G→St} {g0:G} {kk:X→Option β} {r:β} {k:Nat} (hm:Mk x) (hK:E.k0=k) (l:List (Nat×Nat)) (h:(zc0 body g0).bind kk=some r) [i:LS x body body' I]
    (hb:∀ g y,Mk (body g)→(∀ x',y=.inr x'→Mk x∧kk x'=some r)→body' g=some y→AW C E c (zbH1 E I y Q) (I g))
    (hle:Le l st (I g0)∧zaF8 k l (I g0).nx=true:=by exact lv):AW C E (.loop c) Q st:=by
  obtain ⟨x,hx,hk⟩:=zc2 h
  refine zck1 I hK l hx hle fun g y hy hz=>hb g y trivial (fun x' e=>⟨hm,?_⟩) (by rw [← i.e]; exact hy)
  rw [hz x' e]; exact hk
theorem zdc7 {V γ:Type} {J:V→St} {k:V→γ} {R:γ} {s:St} {n:Nat} {v:V} {l:List (Nat×Nat)} (hK:E.k0=n) (h:k v=R)
    (b:Bool) (hl:rl n b s (J v)=l:=by ((conv=>lhs; reduce) <;> exact rfl))
    (hle:Le l s (J v)∧zaF8 n l (J v).nx=true:=by exact lv):zaU5 E J (fun v=>k v=R) s:=zcs3 hK v h _ hle
theorem zdc8 {G X:Type} {I:G→St} {g':G} {y:G⊕X} {s:St} {k:Nat} {l:List (Nat×Nat)} (hK:E.k0=k) (h:some (.inl g')=some y)
    (b:Bool) (hl:rl k b s (I g')=l:=by ((conv=>lhs; reduce) <;> exact rfl))
    (hle:Le l s (I g')∧zaF8 k l (I g').nx=true:=by exact lv):zcs4 E I y s:=by
  cases h; exact zcs5 hK _ hle
theorem zdF6 {G X β:Type} {M:Prop} {y:G⊕X} {x:X} {kk:X→Option β} {R:Option β} (kx:∀ x',y=.inr x'→M∧kk x'=R) (h:some (.inr x)=some y):M∧kk x=R:=kx x (dN h).symm
theorem zck8 {α:Type} {x r:α} {k:Nat} {st:St} {rs:List RX} {rv:List A} {ms':List (Nat×Row)} {k':Nat} {l:List (Nat×Nat)} (b:Bool) (h:some x=some r)
    (hl:rl k b ⟨zK8 0 (resL st rs),st.mem,st.nx⟩ ⟨zK8 0 rv,ms',k'⟩=l:=by ((conv=>lhs; reduce) <;> exact rfl))
    (e:x=r→zbF9 st rs∧zbP0 rv=true∧Le l ⟨zK8 0 (resL st rs),st.mem,st.nx⟩ ⟨zK8 0 rv,ms',k'⟩∧zaF8 k l k'=true:=by (intro e; subst e; exact lv)):zaY5 k st rs rv ms' k':=by
  obtain ⟨h1,h2,h3,h4⟩:=e (dN h)
  exact ⟨h1,h2,l,h3,h4⟩
theorem zdc9 {k:Nat} {st:St} {rs:List RX} {rv:List A} {ms':List (Nat×Row)} {k':Nat} (h:zaY5 k st rs rv ms' k'):zaY5 k st rs rv ms' k':=h
theorem zcK6 {an:List (List Nat)} {f:FuncId} {d:Option Nat} {g:Option (Nat×Bool)} {gv:Bool} {ob:Prop} {args:List A} {rw:List (Nat×MS)} {ids:List Nat} {cok:Bool} {ps:List POp} {st:St} {log:List (List Nat×List Nat)} {K:St→Prop} (h:zbg9 C an f d g gv ob args rw ids cok ps st log K):zbg9 C an f d g gv ob args rw ids cok ps st log K:=h
theorem zcK7 {f:FuncId} {d:Option Nat} {g:Option (Nat×Bool)} {gv:Bool} {ob:Prop} {vals:List A} {ps:List POp} {st:St} {K:St→Prop} (h:zar5 C f d g gv ob vals ps st K):zar5 C f d g gv ob vals ps st K:=h
theorem zct1 {an:List (List Nat)} {f:FuncId} {d:Option Nat} {g:Option (Nat×Bool)} {gv:Bool} {ob:Prop} {vals:List A} {vi:List Nat} {cok:Bool} {ps:List POp} {st:St} {log:List (List Nat×List Nat)} {K:St→Prop} (h:zaK3 C an f d g gv ob vals vi cok ps st log K):zaK3 C an f d g gv ob vals vi cok ps st log K:=h
theorem zat4 {f:FuncId} {d:Option Nat} {ob:Prop} {vals:List A} {ps:List POp} {st:St} {K:St→Prop} {l nl:List (Nat×Nat)} {ids:List Nat} {av:List A} {ms ms':List (Nat×Row)} {k k':Nat} {r:A} (b:Bool)
    (hf:MFn C f av ms k r ms' k') (h:q) (hl:cl b vals av st.mem ms=l:=by ((conv=>lhs; reduce) <;> exact rfl)) (hnl:newL k st.nx (k' - k)=nl:=by ((conv=>lhs; reduce) <;> exact rfl)) (hids:ms.map (·.1)++(List.range (k' - k)).map (k+·)=ids:=by ((conv=>lhs; reduce) <;> exact rfl))
    (e:Imp q (arun C ps (st.app d (renR (l++nl) r) (zU9 st.m (fzM vals av)++zah8 (l++nl) ms' ids)) K):=by exact im)
    (hok:okM st.m st.nx l vals av ms k k':=by exact lv) (ho:ob:=by trivial) (hr:zbg6 r=true:=by rfl):zar5 C f d none true ob vals ps st K :=
  zs1 l nl ids hf hnl hids h e hok ho hr
theorem zas2 {an:List (List Nat)} {f:FuncId} {d:Option Nat} {ob:Prop} {vals:List A} {vi:List Nat} {cok:Bool} {ps:List POp} {st:St} {log:List (List Nat×List Nat)} {K:St→Prop} {l nl:List (Nat×Nat)} {ids:List Nat} {av:List A} {ms ms':List (Nat×Row)} {k k':Nat} {r:A} (b:Bool)
    (hf:MFn C f av ms k r ms' k') (h:q) (hl:cl b vals av st.mem ms=l:=by ((conv=>lhs; reduce) <;> exact rfl)) (hnl:newL k st.nx (k' - k)=nl:=by ((conv=>lhs; reduce) <;> exact rfl)) (hids:ms.map (·.1)++(List.range (k' - k)).map (k+·)=ids:=by ((conv=>lhs; reduce) <;> exact rfl))
    (e:Imp q (zbc3 (an.getD log.length []) 0 log vi ((zU9 st.m (fzM vals av)++zah8 (l++nl) ms' ids).map (·.1))=true∧cok=true∧zaB3 C an ps (st.app d (renR (l++nl) r) (zU9 st.m (fzM vals av)++zah8 (l++nl) ms' ids)) (log++[(vi,(zU9 st.m (fzM vals av)++zah8 (l++nl) ms' ids).map (·.1))]) K):=by exact im)
    (hok:okM st.m st.nx l vals av ms k k':=by exact lv) (ho:ob:=by trivial) (hr:zbg6 r=true:=by rfl):zaK3 C an f d none true ob vals vi cok ps st log K :=
  zbw1 l nl ids hf hnl hids h e hok ho hr
theorem gogo {p:Prop} (w:p:=by
      (skip
       repeat' first
        | (with_reducible refine isAW ?_
           first
           | (with_reducible obtain ⟨_,h⟩:=zg0 h)
           | (with_reducible obtain ⟨hm,h⟩:=zdF6 kx h
              clear kx
              try dsimp only at h)
           | refine za2 ?_
           | refine zo3 ?_
           | refine zR8 ?_
           | refine zx8 ?_
           | refine za5 hG ?_
           | refine zbr4 zN6 hG ?_
           | refine zaB7 zN6 hG ?_
           | (refine zds3 hm rfl hG h (fun v hm h=>?_) (fun _ h=>?_) (fun _ h=>?_)
              focus (try refine g_st ?_))
           | (refine zp0 rfl hG h (fun _ h=>?_) (fun _ h=>?_))
           | refine zbL9 rfl hG ?_
           | refine g_cond0 rfl hG ?_
           | (refine zaj4 hm h (fun v hm h=>?_) ?_
              focus (try refine g_st ?_))
           | refine zK9 ?_
           | (refine zdc6 hm hK h (fun g y hm kx h=>?_) false; try refine g_st ?_)
           | (refine zdc6 hm hK h (fun g y hm kx h=>?_) true; try refine g_st ?_))
        | (with_reducible refine zdc5 ?_
           first
           | (refine zw4 (fun _=>OkT.ok) ?_)
           | (obtain ⟨v,hv,h⟩:=zc2 h
              have hm:=mkP hm v
              repeat (with_reducible obtain ⟨_,h⟩:=zg0 h)
              first
              | refine zw4 (fun _=>OkP.ok _ hv) ?_
              | refine zw4 (fun hg=>OkP.ok _ (zaU4 hg hv)) ?_
              | refine zw4 (fun _=>PFn.unfull (OkP.ok _ hv)) ?_
              | refine zw4 (fun _=>hrc _ _ hv) ?_
              | refine zw4 (fun _=>hrc _ _ _ hv) ?_
              | refine zw4 (fun _=>hrc _ _ _ _ hv) ?_
              | refine zw4 (fun _=>hrc _ _ _ _ _ hv) ?_))
        | (with_reducible refine zcK5 ?_
           first
           | (refine zax9 (fun _=>OkT.ok) ?_)
           | (obtain ⟨v,hv,h⟩:=zc2 h
              have hm:=mkP hm v
              repeat (with_reducible obtain ⟨_,h⟩:=zg0 h)
              first
              | refine zax9 (fun _=>OkP.ok _ hv) ?_
              | refine zax9 (fun hg=>OkP.ok _ (zaU4 hg hv)) ?_
              | refine zax9 (fun _=>PFn.unfull (OkP.ok _ hv)) ?_
              | refine zax9 (fun _=>hrc _ _ hv) ?_
              | refine zax9 (fun _=>hrc _ _ _ hv) ?_
              | refine zax9 (fun _=>hrc _ _ _ _ hv) ?_
              | refine zax9 (fun _=>hrc _ _ _ _ _ hv) ?_))
        | (with_reducible refine zcK6 ?_
           first
           | (refine zao8 (fun _=>OkT.ok) ?_)
           | (obtain ⟨v,hv,h⟩:=zc2 h
              have hm:=mkP hm v
              repeat (with_reducible obtain ⟨_,h⟩:=zg0 h)
              first
              | refine zao8 (fun _=>OkP.ok _ hv) ?_
              | refine zao8 (fun hg=>OkP.ok _ (zaU4 hg hv)) ?_
              | refine zao8 (fun _=>hrc _ _ hv) ?_
              | refine zao8 (fun _=>hrc _ _ _ hv) ?_
              | refine zao8 (fun _=>hrc _ _ _ _ hv) ?_
              | refine zao8 (fun _=>hrc _ _ _ _ _ hv) ?_))
        | (with_reducible refine zcK7 ?_
           obtain ⟨v,hv,h⟩:=zc2 h
           have hm:=mkP hm v
           repeat (with_reducible obtain ⟨_,h⟩:=zg0 h)
           first
           | refine zat4 false (OkM.ok _ hv) ?_
           | refine zat4 true (OkM.ok _ hv) ?_
           | refine zat4 false (hrc _ _ hv) ?_
           | refine zat4 true (hrc _ _ hv) ?_
           | refine zat4 false (hrc _ _ _ hv) ?_
           | refine zat4 true (hrc _ _ _ hv) ?_
           | refine zat4 false (hrc _ _ _ _ hv) ?_
           | refine zat4 true (hrc _ _ _ _ hv) ?_
           | refine zat4 false (hrc _ _ _ _ _ hv) ?_
           | refine zat4 true (hrc _ _ _ _ _ hv) ?_
           | (rcases v with v|v
              all_goals dsimp only at h
              all_goals first
              | refine zat4 false (OkL.ok _ hv) ?_
              | refine zat4 false (OkR.ok _ hv) ?_))
        | (with_reducible refine zct1 ?_
           obtain ⟨v,hv,h⟩:=zc2 h
           have hm:=mkP hm v
           repeat (with_reducible obtain ⟨_,h⟩:=zg0 h)
           first
           | refine zas2 false (OkM.ok _ hv) ?_
           | refine zas2 true (OkM.ok _ hv) ?_
           | refine zas2 false (hrc _ _ hv) ?_
           | refine zas2 true (hrc _ _ hv) ?_
           | refine zas2 false (hrc _ _ _ hv) ?_
           | refine zas2 true (hrc _ _ _ hv) ?_
           | refine zas2 false (hrc _ _ _ _ hv) ?_
           | refine zas2 true (hrc _ _ _ _ hv) ?_
           | refine zas2 false (hrc _ _ _ _ _ hv) ?_
           | refine zas2 true (hrc _ _ _ _ _ hv) ?_)
        | (with_reducible refine zdc9 ?_
           first
           | exact zck8 false h
           | exact zck8 true h
           | exact zck8 false (zck6 h)
           | exact zck8 false (zbl3 h)
           | exact nomatch h)
        | exact zdc8 hK h false
        | exact zdc7 hK h false
        | exact zdc8 hK h true
        | exact zdc7 hK h true
        | (fail_if_success (with_reducible refine isAW ?_)
           fail_if_success (with_reducible refine zdc5 ?_)
           fail_if_success (with_reducible refine zcK5 ?_)
           fail_if_success (with_reducible refine zcK6 ?_)
           fail_if_success (with_reducible refine zcK7 ?_)
           fail_if_success (with_reducible refine zct1 ?_)
           fail_if_success (with_reducible refine zdc9 ?_)
           fail_if_success (with_reducible refine isJoin ?_)
           fail_if_success (with_reducible refine isNext ?_)
           first
           | exact zae1 h
           | exact zdy7 h))):p:=w
theorem zak7 (F:Func) (hs:List (Nat×Nat)) {f:FuncId} {av:List A} {r:A} {pc:(Nat→Nat→List A)→({o:Operand}→Nat→PX)→PC} {N np:Nat} {rs:List RX}
    (h:∀ E:Env,E.G=C.G→E.N=N→E.k0=0→AW C E (pc cZ (@kon cZ)) (Post rs r) ⟨zK8 0 av,[],0⟩)
    {us ut:Nat} (hu:zct0 F=(us,ut):=by ((conv=>lhs; reduce) <;> exact rfl)) (hp:∀ (Z:Nat→Nat→List A) (K:{o:Operand}→Nat→PX),TC.tr ⟨cT,cM,Z,@K⟩ hs us ut F=(pc Z @K,N,rs,np):=by (intro Z K; ((conv=>lhs; reduce) <;> exact rfl))) (hchk:chkF C.P f (pc cZ (@kon cZ)) N rs np=true:=by kernel_rfl) (hnp:av.length=np:=by rfl):PFn C f av r:=zbA3 hchk hnp h
theorem zay0 (F:Func) (hs:List (Nat×Nat)) {f:FuncId} {av:List A} {ms ms':List (Nat×Row)} {k k':Nat} (rl:List A) {pc:(Nat→Nat→List A)→({o:Operand}→Nat→PX)→PC} {N np:Nat} {rs:List RX}
    (h:∀ E:Env,E.G=C.G→E.N=N→E.k0=k→AW C E (pc cZ (@kon cZ)) (zcq9 k rs rl ms' k') ⟨zK8 0 av,ms,k⟩)
    {us ut:Nat} (hu:zct0 F=(us,ut):=by ((conv=>lhs; reduce) <;> exact rfl)) (hp:∀ (Z:Nat→Nat→List A) (K:{o:Operand}→Nat→PX),TC.tr ⟨cT,cM,Z,@K⟩ hs us ut F=(pc Z @K,N,rs,np):=by (intro Z K; ((conv=>lhs; reduce) <;> exact rfl))) (hchk:chkF C.P f (pc cZ (@kon cZ)) N rs np=true:=by kernel_rfl)
    (hnp:av.length=np:=by rfl) (hms:zcd9 ms=true:=by rfl) (hall:zbF6 ms k=true:=by rfl) (hrl:rl.length=rs.length:=by rfl):MFn C f av ms k (zcd7 rl) ms' k':=zce0 hchk hnp hms hall hrl h
theorem ok1 {α:Type} {m m':Option α} (u:m=m') (F:Func) (hs:List (Nat×Nat)) {f:FuncId} {av:List A} {R:α→A} {pc:(Nat→Nat→List A)→({o:Operand}→Nat→PX)→PC} {N np:Nat} {rs:List RX} {us ut:Nat} (hu:zct0 F=(us,ut):=by ((conv=>lhs; reduce) <;> exact rfl)) (hp:∀ (Z:Nat→Nat→List A) (K:{o:Operand}→Nat→PX),TC.tr ⟨cT,cM,Z,@K⟩ hs us ut F=(pc Z @K,N,rs,np):=by (intro Z K; ((conv=>lhs; reduce) <;> exact rfl))) (hchk:chkF C.P f (pc cZ (@kon cZ)) N rs np=true:=by kernel_rfl)
    (w:∀ E:Env,∀ r,E.G=C.G→E.k0=0→Mk m→m'=some r→AW C E (pc cZ (@kon cZ)) (Post rs (R r)) ⟨zK8 0 av,[],0⟩:=by
      (intro E r hG hK hm h; exact gogo)) (hnp:av.length=np:=by rfl):OkP m f av R :=
  ⟨fun r h=>zbA3 hchk hnp fun E hG _ hK=>w E r hG hK trivial (u ▸ h)⟩
theorem ok2 {α:Type} (R:α→A) {m m':α} (u:m=m') (F:Func) (hs:List (Nat×Nat)) {f:FuncId} {av:List A} {pc:(Nat→Nat→List A)→({o:Operand}→Nat→PX)→PC} {N np:Nat} {rs:List RX} {us ut:Nat} (hu:zct0 F=(us,ut):=by ((conv=>lhs; reduce) <;> exact rfl)) (hp:∀ (Z:Nat→Nat→List A) (K:{o:Operand}→Nat→PX),TC.tr ⟨cT,cM,Z,@K⟩ hs us ut F=(pc Z @K,N,rs,np):=by (intro Z K; ((conv=>lhs; reduce) <;> exact rfl))) (hchk:chkF C.P f (pc cZ (@kon cZ)) N rs np=true:=by kernel_rfl)
    (w:∀ E:Env,∀ r,E.G=C.G→E.k0=0→Mk m→m'=r→AW C E (pc cZ (@kon cZ)) (Post rs (R r)) ⟨zK8 0 av,[],0⟩:=by
      (intro E r hG hK hm h; exact gogo)) (hnp:av.length=np:=by rfl):OkT f av (R m) :=
  ⟨zbA3 hchk hnp fun E hG _ hK=>w E m hG hK trivial u.symm⟩
theorem okm {α:Type} {m m':Option α} (u:m=m') {f:FuncId} {av:List A} {ms:List (Nat×Row)} {k k':Nat} (rv:α→List A) {ms':α→List (Nat×Row)} (F:Func) (hs:List (Nat×Nat)) {pc:(Nat→Nat→List A)→({o:Operand}→Nat→PX)→PC} {N np:Nat} {rs:List RX} {us ut:Nat} (hu:zct0 F=(us,ut):=by ((conv=>lhs; reduce) <;> exact rfl)) (hp:∀ (Z:Nat→Nat→List A) (K:{o:Operand}→Nat→PX),TC.tr ⟨cT,cM,Z,@K⟩ hs us ut F=(pc Z @K,N,rs,np):=by (intro Z K; ((conv=>lhs; reduce) <;> exact rfl))) (hchk:chkF C.P f (pc cZ (@kon cZ)) N rs np=true:=by kernel_rfl)
    (w:∀ E:Env,∀ r,E.G=C.G→E.k0=k→Mk m→m'=some r→AW C E (pc cZ (@kon cZ)) (zcq9 k rs (rv r) (ms' r) k') ⟨zK8 0 av,ms,k⟩:=by
      (intro E r hG hK hm h; exact gogo))
    (hnp:av.length=np:=by rfl) (hms:zcd9 ms=true:=by rfl) (hall:zbF6 ms k=true:=by rfl) (hrl:∀ r,(rv r).length=rs.length:=by (intro r; rfl)):OkM m f av ms k (fun r=>zcd7 (rv r)) ms' k' :=
  ⟨fun r h=>zce0 (rl:=rv r) hchk hnp hms hall (hrl r) fun E hG _ hK=>w E r hG hK trivial (u ▸ h)⟩
end
end Ab
end Go.Proofs.YtcggeefhhegeoaaGreatDoor
