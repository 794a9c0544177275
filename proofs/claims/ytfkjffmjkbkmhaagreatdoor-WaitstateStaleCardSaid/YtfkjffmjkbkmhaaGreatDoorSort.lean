import Derived.Test.YtfkjffmjkbkmhaaGreatDoorCode
import Derived.Test.YtfkjffmjkbkmhaaGreatDoorAb17
import Derived.Shelf.Spec.SlicesGrow
import Derived.Shelf.SlSortCmp.NoneTotal
namespace Go.Proofs.YtfkjffmjkbkmhaaGreatDoor
namespace Ab
set_option linter.unusedSimpArgs false
set_option linter.unusedVariables false
class OkP {α:Type} (m:Option α) (f:outParam FuncId) (av:outParam (List A)) (R:outParam (α→A)):Prop where
  ok:∀ r,m=some r→PFn C f av (R r)
class OkM {α:Type} (m:Option α) (f:outParam FuncId) (av:outParam (List A)) (ms:outParam (List (Nat×Row))) (k:outParam Nat) (R:outParam (α→A)) (ms':outParam (α→List (Nat×Row))) (k':outParam Nat):Prop where
  ok:∀ r,m=some r→MFn C f av ms k (R r) (ms' r) k'
class OkT (f:FuncId) (av:List A) (r:outParam A):Prop where
  ok:PFn C f av r
class OkL {α β:Type} (m:Option (α⊕β)) (f:outParam FuncId) (av:outParam (List A)) (ms:outParam (List (Nat×Row))) (k:outParam Nat) (R:outParam (α→A)) (ms':outParam (α→List (Nat×Row))) (k':outParam Nat):Prop where
  ok:∀ r,m=some (.inl r)→MFn C f av ms k (R r) (ms' r) k'
class OkR {α β:Type} (m:Option (α⊕β)) (f:outParam FuncId) (av:outParam (List A)) (ms:outParam (List (Nat×Row))) (k:outParam Nat) (R:outParam (β→A)) (ms':outParam (β→List (Nat×Row))) (k':outParam Nat):Prop where
  ok:∀ r,m=some (.inr r)→MFn C f av ms k (R r) (ms' r) k'
theorem zaP2 {T:Type} {P:T→Prop} {fr:Nat→T} (h0:P (fr 0)) (hs:∀ n,P (fr n)→P (fr (n+1))):∀ n,P (fr n)
  | 0=>h0
  | n+1=>hs n (zaP2 h0 hs n)
def Mk {α:Type} (x:α):Prop:=True
theorem mkP {α β:Type} {x:α} (hm:Mk x) (v:β):Mk (x,v):=trivial
class JS {α:Type} (x:α) (id:Nat) {γ:outParam Type} {V:outParam Type} (k k':outParam (V→γ)) (J:outParam (V→St)):Prop where
  e:∀ v,k v=k' v
class LS {α G X:Type} (x:α) (b:G→Option (G⊕X)) (b':outParam (G→Option (G⊕X))) (I:outParam (G→St)):Prop where
  e:∀ v,b v=b' v
theorem mkJ {α:Type} (x:α) (id:Nat) {γ V:Type} {k k':V→γ} (e:∀ v,k v=k' v) (J:V→St):JS x id k k' J:=⟨e⟩
theorem mkL {α G X:Type} (x:α) {b b':G→Option (G⊕X)} (e:∀ v,b v=b' v) (I:G→St):LS x b b' I:=⟨e⟩
def prA:A→A→List (Nat×Nat)
  | .ptr x _ _,.ptr y _ _=>[(y,x)]
  | .own x _ _,.own y _ _=>[(y,x)]
  | _,_=>[]
def prC:List A→List A→List (Nat×Nat)
  | a :: r,b :: s=>prA a b++prC r s
  | _,_=>[]
def prE:List (List A)→List (List A)→List (Nat×Nat)
  | a :: r,b :: s=>prC a b++prE r s
  | _,_=>[]
def prS (s:List (Nat×A)):List (Nat×A)→List (Nat×Nat)
  | []=>[]
  | q :: r=>(match look s q.1 with|some b=>prA b q.2|none=>[])++prS s r
def prM (m:List (Nat×Row)) (l:List (Nat×Nat)):List (Nat×Row)→List (Nat×Nat)
  | []=>[]
  | q :: r=>(match look l q.1 with|some x=>(match look m x with|some w=>prE w.es q.2.es|none=>[])|none=>[])++prM m l r
def ptS (s:List (Nat×A)):List (Nat×A)→List (Nat×Nat)
  | []=>[]
  | q :: r=>(match q.2,look s q.1 with|.ptr y _ _,some (.ptr x _ _)=>[(y,x)]|_,_=>[])++ptS s r
def idL:Nat→List (Nat×Nat)
  | 0=>[]
  | n+1=>idL n++[(n,n)]
def rl (k:Nat) (b:Bool) (s J:St):List (Nat×Nat):=idL k++prS s.fr J.fr++if b then prM s.mem (idL k++ptS s.fr J.fr) J.mem else []
def ptC:List A→List A→List (Nat×Nat)
  | .ptr x _ _ :: r,.ptr y _ _ :: s=>(y,x) :: ptC r s
  | _ :: r,_ :: s=>ptC r s
  | _,_=>[]
def cl (b:Bool) (vals av:List A) (m ms:List (Nat×Row)):List (Nat×Nat):=prC vals av++if b then prM m (ptC vals av) ms else []
theorem lv {p:Prop} (w:p:=by
  (simp only [go_sem,↓reduceIte,reduceCtorEq,Nat.reduceEqDiff,Nat.reduceAdd,Nat.reduceSub,Nat.reduceMul,Nat.reduceLeDiff,Nat.reduceLT,Int.reduceLE,Int.reduceLT,Int.reduceToNat,Int.reduceNeg]
   first
   | (done)
   | trivial
   | (simp; done)
   | ((repeat' (first|rfl|trivial|omega|(simp; done)|(simp; omega)|(congr 1; omega)|(congr 1; simp only [bZ,cO,eE,gB]; omega)|apply And.intro)) <;> fail))):p:=w
section
variable {E:Env} {Q:Exit→St→Prop} {st:St} {q:Prop}
theorem isAW {c:PC} (h:AW C E c Q st):AW C E c Q st:=h
theorem zcV1 {f:FuncId} {d:Option Nat} {g:Option (Nat×Bool)} {gv:Bool} {ob:Prop} {args:List A} {rw:List (Nat×MS)} {ps:List POp} {st:St} {K:St→Prop} (h:zbB1 C f d g gv ob args rw ps st K):zbB1 C f d g gv ob args rw ps st K:=h
theorem zcD5 {f:FuncId} {d:Option Nat} {g:Option (Nat×Bool)} {gv:Bool} {ob:Prop} {args:List A} {rw:List (Nat×MS)} {ps:List POp} {st:St} {K:St→Prop} (h:zbc4 C f d g gv ob args rw ps st K):zbc4 C f d g gv ob args rw ps st K:=h
theorem zat9 {α γ V:Type} {x:α} {id:Nat} {k k':V→γ} {J:V→St} {R:γ} {c:PC} {m:γ} (hm:Mk x) (h:m=R) [i:JS x id k k' J]
    (hk:∀ v,Mk (k v)→k' v=R→Q .normal (J v)) (hb:AW C E c (BlkJ E id J (fun v=>k v=R) Q) st):AW C E (.block id c) Q st :=
  zD0 J _ (fun v e=>hk v trivial (by rw [← i.e]; exact e)) hb
theorem zdk4 {α γ V:Type} {z:α} {k k':V→γ} {J:V→St} {x:PX} {p q:PC} {b c:Bool} {X Y r:γ} (hm:Mk z) (hx:xv C.G st.slot x=.bool b) (hG:E.G=C.G) (h:(if c=true then X else Y)=r) [i:JS z 999 k k' J]
    (hk:∀ v,Mk (k v)→k' v=r→Q .normal (J v)) (ht:b=true→X=r→AW C E p (zbk6 E J (fun v=>k v=r) Q) st) (hf:b=false→Y=r→AW C E q (zbk6 E J (fun v=>k v=r) Q) st) (e:b=c:=by first|rfl|(simp; done)|grind):AW C E (.cond x p q) Q st :=
  zbh3 J _ hx hG h (fun v e=>hk v trivial (by rw [← i.e]; exact e)) ht hf e
theorem zcV2 {α:Type} {x:α} {c:PC} {G X β:Type} {body body':G→Option (G⊕X)} {I:G→St} {g0:G} {kk:X→Option β} {r:β} {k:Nat} {l:List (Nat×Nat)} (hm:Mk x) (hK:E.k0=k) (h:(zb9 body g0).bind kk=some r) [i:LS x body body' I]
    (hb:∀ g y,Mk (body g)→(∀ x',y=.inr x'→Mk x∧kk x'=some r)→body' g=some y→AW C E c (zbB2 E I y Q) (I g))
    (b:Bool) (hl:rl k b st (I g0)=l:=by ((conv=>lhs; reduce) <;> exact rfl))
    (hle:Le l st (I g0)∧zaC5 k l (I g0).nx=true:=by exact lv):AW C E (.loop c) Q st:=by
  obtain ⟨x,hx,hk⟩:=zc7 h
  refine zcc5 I hK _ hx hle fun g y hy hz=>hb g y trivial (fun x' e=>⟨hm,?_⟩) (by rw [← i.e]; exact hy)
  rw [hz x' e]; exact hk
theorem zdk5 {α:Type} {x:α} {c:PC} {G X β:Type} {body body':G→Option (G⊕X)} {I:G→St} {g0:G} {kk:X→Option β} {r:β} {k:Nat} (hm:Mk x) (hK:E.k0=k) (l:List (Nat×Nat)) (h:(zb9 body g0).bind kk=some r) [i:LS x body body' I]
    (hb:∀ g y,Mk (body g)→(∀ x',y=.inr x'→Mk x∧kk x'=some r)→body' g=some y→AW C E c (zbB2 E I y Q) (I g))
    (hle:Le l st (I g0)∧zaC5 k l (I g0).nx=true:=by exact lv):AW C E (.loop c) Q st:=by
  obtain ⟨x,hx,hk⟩:=zc7 h
  refine zcc5 I hK l hx hle fun g y hy hz=>hb g y trivial (fun x' e=>⟨hm,?_⟩) (by rw [← i.e]; exact hy)
  rw [hz x' e]; exact hk
theorem zcV3 {V γ:Type} {J:V→St} {k:V→γ} {R:γ} {s:St} {n:Nat} {v:V} {l:List (Nat×Nat)} (hK:E.k0=n) (h:k v=R)
    (b:Bool) (hl:rl n b s (J v)=l:=by ((conv=>lhs; reduce) <;> exact rfl))
    (hle:Le l s (J v)∧zaC5 n l (J v).nx=true:=by exact lv):zaQ7 E J (fun v=>k v=R) s:=zcl1 hK v h _ hle
theorem zcV4 {G X:Type} {I:G→St} {g':G} {y:G⊕X} {s:St} {k:Nat} {l:List (Nat×Nat)} (hK:E.k0=k) (h:some (.inl g')=some y)
    (b:Bool) (hl:rl k b s (I g')=l:=by ((conv=>lhs; reduce) <;> exact rfl))
    (hle:Le l s (I g')∧zaC5 k l (I g').nx=true:=by exact lv):zcl2 E I y s:=by
  cases h; exact zcl3 hK _ hle
theorem zdy7 {G X β:Type} {M:Prop} {y:G⊕X} {x:X} {kk:X→Option β} {R:Option β} (kx:∀ x',y=.inr x'→M∧kk x'=R) (h:some (.inr x)=some y):M∧kk x=R:=kx x (dZ h).symm
theorem zcd3 {α:Type} {x r:α} {k:Nat} {st:St} {rs:List RX} {rv:List A} {ms':List (Nat×Row)} {k':Nat} {l:List (Nat×Nat)} (b:Bool) (h:some x=some r)
    (hl:rl k b ⟨zG3 0 (resL st rs),st.mem,st.nx⟩ ⟨zG3 0 rv,ms',k'⟩=l:=by ((conv=>lhs; reduce) <;> exact rfl))
    (e:x=r→zbA0 st rs∧zbI1 rv=true∧Le l ⟨zG3 0 (resL st rs),st.mem,st.nx⟩ ⟨zG3 0 rv,ms',k'⟩∧zaC5 k l k'=true:=by (intro e; subst e; exact lv)):zaV3 k st rs rv ms' k':=by
  obtain ⟨h1,h2,h3,h4⟩:=e (dZ h)
  exact ⟨h1,h2,l,h3,h4⟩
theorem zcV5 {k:Nat} {st:St} {rs:List RX} {rv:List A} {ms':List (Nat×Row)} {k':Nat} (h:zaV3 k st rs rv ms' k'):zaV3 k st rs rv ms' k':=h
theorem zcD6 {an:List (List Nat)} {f:FuncId} {d:Option Nat} {g:Option (Nat×Bool)} {gv:Bool} {ob:Prop} {args:List A} {rw:List (Nat×MS)} {ids:List Nat} {cok:Bool} {ps:List POp} {st:St} {log:List (List Nat×List Nat)} {K:St→Prop} (h:zbc5 C an f d g gv ob args rw ids cok ps st log K):zbc5 C an f d g gv ob args rw ids cok ps st log K:=h
theorem zcD7 {f:FuncId} {d:Option Nat} {g:Option (Nat×Bool)} {gv:Bool} {ob:Prop} {vals:List A} {ps:List POp} {st:St} {K:St→Prop} (h:zam4 C f d g gv ob vals ps st K):zam4 C f d g gv ob vals ps st K:=h
theorem zcl9 {an:List (List Nat)} {f:FuncId} {d:Option Nat} {g:Option (Nat×Bool)} {gv:Bool} {ob:Prop} {vals:List A} {vi:List Nat} {cok:Bool} {ps:List POp} {st:St} {log:List (List Nat×List Nat)} {K:St→Prop} (h:zaG5 C an f d g gv ob vals vi cok ps st log K):zaG5 C an f d g gv ob vals vi cok ps st log K:=h
theorem zao5 {f:FuncId} {d:Option Nat} {ob:Prop} {vals:List A} {ps:List POp} {st:St} {K:St→Prop} {l nl:List (Nat×Nat)} {ids:List Nat} {av:List A} {ms ms':List (Nat×Row)} {k k':Nat} {r:A} (b:Bool)
    (hf:MFn C f av ms k r ms' k') (h:q) (hl:cl b vals av st.mem ms=l:=by ((conv=>lhs; reduce) <;> exact rfl)) (hnl:newL k st.nx (k' - k)=nl:=by ((conv=>lhs; reduce) <;> exact rfl)) (hids:ms.map (·.1)++(List.range (k' - k)).map (k+·)=ids:=by ((conv=>lhs; reduce) <;> exact rfl))
    (e:Imp q (arun C ps (st.app d (renR (l++nl) r) (zQ1 st.m (fzM vals av)++zac0 (l++nl) ms' ids)) K):=by exact im)
    (hok:okM st.m st.nx l vals av ms k k':=by exact lv) (ho:ob:=by trivial) (hr:zbc2 r=true:=by rfl):zam4 C f d none true ob vals ps st K :=
  zr6 l nl ids hf hnl hids h e hok ho hr
theorem zan3 {an:List (List Nat)} {f:FuncId} {d:Option Nat} {ob:Prop} {vals:List A} {vi:List Nat} {cok:Bool} {ps:List POp} {st:St} {log:List (List Nat×List Nat)} {K:St→Prop} {l nl:List (Nat×Nat)} {ids:List Nat} {av:List A} {ms ms':List (Nat×Row)} {k k':Nat} {r:A} (b:Bool)
    (hf:MFn C f av ms k r ms' k') (h:q) (hl:cl b vals av st.mem ms=l:=by ((conv=>lhs; reduce) <;> exact rfl)) (hnl:newL k st.nx (k' - k)=nl:=by ((conv=>lhs; reduce) <;> exact rfl)) (hids:ms.map (·.1)++(List.range (k' - k)).map (k+·)=ids:=by ((conv=>lhs; reduce) <;> exact rfl))
    (e:Imp q (zaY0 (an.getD log.length []) 0 log vi ((zQ1 st.m (fzM vals av)++zac0 (l++nl) ms' ids).map (·.1))=true∧cok=true∧zax0 C an ps (st.app d (renR (l++nl) r) (zQ1 st.m (fzM vals av)++zac0 (l++nl) ms' ids)) (log++[(vi,(zQ1 st.m (fzM vals av)++zac0 (l++nl) ms' ids).map (·.1))]) K):=by exact im)
    (hok:okM st.m st.nx l vals av ms k k':=by exact lv) (ho:ob:=by trivial) (hr:zbc2 r=true:=by rfl):zaG5 C an f d none true ob vals vi cok ps st log K :=
  zbJ9 l nl ids hf hnl hids h e hok ho hr
theorem gogo {p:Prop} (w:p:=by
      (skip
       repeat' first
        | (with_reducible refine isAW ?_
           first
           | (with_reducible obtain ⟨_,h⟩:=ze1 h)
           | (with_reducible obtain ⟨hm,h⟩:=zdy7 kx h
              clear kx
              try dsimp only at h)
           | refine za2 ?_
           | refine zk1 ?_
           | refine zG4 ?_
           | refine zt4 ?_
           | refine za5 hG ?_
           | refine zaW1 zz1 hG ?_
           | refine zam5 zz1 hG ?_
           | (refine zdk4 hm rfl hG h (fun v hm h=>?_) (fun _ h=>?_) (fun _ h=>?_)
              focus (try refine g_st ?_))
           | (refine zl4 rfl hG h (fun _ h=>?_) (fun _ h=>?_))
           | refine zbh4 rfl hG ?_
           | refine zcd0 rfl hG ?_
           | (refine zat9 hm h (fun v hm h=>?_) ?_
              focus (try refine g_st ?_))
           | refine zC3 ?_
           | (refine zcV2 hm hK h (fun g y hm kx h=>?_) false; try refine g_st ?_)
           | (refine zcV2 hm hK h (fun g y hm kx h=>?_) true; try refine g_st ?_))
        | (with_reducible refine zcV1 ?_
           first
           | (refine zr9 (fun _=>OkT.ok) ?_)
           | (obtain ⟨v,hv,h⟩:=zc7 h
              have hm:=mkP hm v
              repeat (with_reducible obtain ⟨_,h⟩:=ze1 h)
              first
              | refine zr9 (fun _=>OkP.ok _ hv) ?_
              | refine zr9 (fun hg=>OkP.ok _ (zaN2 hg hv)) ?_
              | refine zr9 (fun _=>PFn.unfull (OkP.ok _ hv)) ?_
              | refine zr9 (fun _=>hrc _ _ hv) ?_
              | refine zr9 (fun _=>hrc _ _ _ hv) ?_
              | refine zr9 (fun _=>hrc _ _ _ _ hv) ?_
              | refine zr9 (fun _=>hrc _ _ _ _ _ hv) ?_))
        | (with_reducible refine zcD5 ?_
           first
           | (refine zaj7 (fun _=>OkT.ok) ?_)
           | (obtain ⟨v,hv,h⟩:=zc7 h
              have hm:=mkP hm v
              repeat (with_reducible obtain ⟨_,h⟩:=ze1 h)
              first
              | refine zaj7 (fun _=>OkP.ok _ hv) ?_
              | refine zaj7 (fun hg=>OkP.ok _ (zaN2 hg hv)) ?_
              | refine zaj7 (fun _=>PFn.unfull (OkP.ok _ hv)) ?_
              | refine zaj7 (fun _=>hrc _ _ hv) ?_
              | refine zaj7 (fun _=>hrc _ _ _ hv) ?_
              | refine zaj7 (fun _=>hrc _ _ _ _ hv) ?_
              | refine zaj7 (fun _=>hrc _ _ _ _ _ hv) ?_))
        | (with_reducible refine zcD6 ?_
           first
           | (refine zV9 (fun _=>OkT.ok) ?_)
           | (obtain ⟨v,hv,h⟩:=zc7 h
              have hm:=mkP hm v
              repeat (with_reducible obtain ⟨_,h⟩:=ze1 h)
              first
              | refine zV9 (fun _=>OkP.ok _ hv) ?_
              | refine zV9 (fun hg=>OkP.ok _ (zaN2 hg hv)) ?_
              | refine zV9 (fun _=>hrc _ _ hv) ?_
              | refine zV9 (fun _=>hrc _ _ _ hv) ?_
              | refine zV9 (fun _=>hrc _ _ _ _ hv) ?_
              | refine zV9 (fun _=>hrc _ _ _ _ _ hv) ?_))
        | (with_reducible refine zcD7 ?_
           obtain ⟨v,hv,h⟩:=zc7 h
           have hm:=mkP hm v
           repeat (with_reducible obtain ⟨_,h⟩:=ze1 h)
           first
           | refine zao5 false (OkM.ok _ hv) ?_
           | refine zao5 true (OkM.ok _ hv) ?_
           | refine zao5 false (hrc _ _ hv) ?_
           | refine zao5 true (hrc _ _ hv) ?_
           | refine zao5 false (hrc _ _ _ hv) ?_
           | refine zao5 true (hrc _ _ _ hv) ?_
           | refine zao5 false (hrc _ _ _ _ hv) ?_
           | refine zao5 true (hrc _ _ _ _ hv) ?_
           | refine zao5 false (hrc _ _ _ _ _ hv) ?_
           | refine zao5 true (hrc _ _ _ _ _ hv) ?_
           | (rcases v with v|v
              all_goals dsimp only at h
              all_goals first
              | refine zao5 false (OkL.ok _ hv) ?_
              | refine zao5 false (OkR.ok _ hv) ?_))
        | (with_reducible refine zcl9 ?_
           obtain ⟨v,hv,h⟩:=zc7 h
           have hm:=mkP hm v
           repeat (with_reducible obtain ⟨_,h⟩:=ze1 h)
           first
           | refine zan3 false (OkM.ok _ hv) ?_
           | refine zan3 true (OkM.ok _ hv) ?_
           | refine zan3 false (hrc _ _ hv) ?_
           | refine zan3 true (hrc _ _ hv) ?_
           | refine zan3 false (hrc _ _ _ hv) ?_
           | refine zan3 true (hrc _ _ _ hv) ?_
           | refine zan3 false (hrc _ _ _ _ hv) ?_
           | refine zan3 true (hrc _ _ _ _ hv) ?_
           | refine zan3 false (hrc _ _ _ _ _ hv) ?_
           | refine zan3 true (hrc _ _ _ _ _ hv) ?_)
        | (with_reducible refine zcV5 ?_
           first
           | exact zcd3 false h
           | exact zcd3 true h
           | exact zcd3 false (zcd1 h)
           | exact zcd3 false (zbh5 h)
           | (cases h; done))
        | exact zcV4 hK h false
        | exact zcV3 hK h false
        | exact zcV4 hK h true
        | exact zcV3 hK h true
        | (fail_if_success (with_reducible refine isAW ?_)
           fail_if_success (with_reducible refine zcV1 ?_)
           fail_if_success (with_reducible refine zcD5 ?_)
           fail_if_success (with_reducible refine zcD6 ?_)
           fail_if_success (with_reducible refine zcD7 ?_)
           fail_if_success (with_reducible refine zcl9 ?_)
           fail_if_success (with_reducible refine zcV5 ?_)
           fail_if_success (with_reducible refine isJoin ?_)
           fail_if_success (with_reducible refine isNext ?_)
           first
           | exact zJ4 h
           | exact zdr3 h))):p:=w
theorem zY9 (F:Func) (hs:List (Nat×Nat)) {f:FuncId} {av:List A} {r:A} {pc:(Nat→Nat→List A)→({o:Operand}→Nat→PX)→PC} {N np:Nat} {rs:List RX}
    (h:∀ E:Env,E.G=C.G→E.N=N→E.k0=0→AW C E (pc cZ (@kon cZ)) (Post rs r) ⟨zG3 0 av,[],0⟩)
    {us ut:Nat} (hu:zcl8 F=(us,ut):=by ((conv=>lhs; reduce) <;> exact rfl)) (hp:∀ (Z:Nat→Nat→List A) (K:{o:Operand}→Nat→PX),TC.tr ⟨cT,cM,Z,@K⟩ hs us ut F=(pc Z @K,N,rs,np):=by (intro Z K; ((conv=>lhs; reduce) <;> exact rfl))) (hchk:chkF C.P f (pc cZ (@kon cZ)) N rs np=true:=by kernel_rfl) (hnp:av.length=np:=by rfl):PFn C f av r:=zbv1 hchk hnp h
theorem zax1 (F:Func) (hs:List (Nat×Nat)) {f:FuncId} {av:List A} {ms ms':List (Nat×Row)} {k k':Nat} (rl:List A) {pc:(Nat→Nat→List A)→({o:Operand}→Nat→PX)→PC} {N np:Nat} {rs:List RX}
    (h:∀ E:Env,E.G=C.G→E.N=N→E.k0=k→AW C E (pc cZ (@kon cZ)) (zcj7 k rs rl ms' k') ⟨zG3 0 av,ms,k⟩)
    {us ut:Nat} (hu:zcl8 F=(us,ut):=by ((conv=>lhs; reduce) <;> exact rfl)) (hp:∀ (Z:Nat→Nat→List A) (K:{o:Operand}→Nat→PX),TC.tr ⟨cT,cM,Z,@K⟩ hs us ut F=(pc Z @K,N,rs,np):=by (intro Z K; ((conv=>lhs; reduce) <;> exact rfl))) (hchk:chkF C.P f (pc cZ (@kon cZ)) N rs np=true:=by kernel_rfl)
    (hnp:av.length=np:=by rfl) (hms:zbW4 ms=true:=by rfl) (hall:zbz7 ms k=true:=by rfl) (hrl:rl.length=rs.length:=by rfl):MFn C f av ms k (zbW2 rl) ms' k':=zbW5 hchk hnp hms hall hrl h
theorem ok1 {α:Type} {m m':Option α} (u:m=m') (F:Func) (hs:List (Nat×Nat)) {f:FuncId} {av:List A} {R:α→A} {pc:(Nat→Nat→List A)→({o:Operand}→Nat→PX)→PC} {N np:Nat} {rs:List RX} {us ut:Nat} (hu:zcl8 F=(us,ut):=by ((conv=>lhs; reduce) <;> exact rfl)) (hp:∀ (Z:Nat→Nat→List A) (K:{o:Operand}→Nat→PX),TC.tr ⟨cT,cM,Z,@K⟩ hs us ut F=(pc Z @K,N,rs,np):=by (intro Z K; ((conv=>lhs; reduce) <;> exact rfl))) (hchk:chkF C.P f (pc cZ (@kon cZ)) N rs np=true:=by kernel_rfl)
    (w:∀ E:Env,∀ r,E.G=C.G→E.k0=0→Mk m→m'=some r→AW C E (pc cZ (@kon cZ)) (Post rs (R r)) ⟨zG3 0 av,[],0⟩:=by
      (intro E r hG hK hm h; exact gogo)) (hnp:av.length=np:=by rfl):OkP m f av R :=
  ⟨fun r h=>zbv1 hchk hnp fun E hG _ hK=>w E r hG hK trivial (u ▸ h)⟩
theorem ok2 {α:Type} (R:α→A) {m m':α} (u:m=m') (F:Func) (hs:List (Nat×Nat)) {f:FuncId} {av:List A} {pc:(Nat→Nat→List A)→({o:Operand}→Nat→PX)→PC} {N np:Nat} {rs:List RX} {us ut:Nat} (hu:zcl8 F=(us,ut):=by ((conv=>lhs; reduce) <;> exact rfl)) (hp:∀ (Z:Nat→Nat→List A) (K:{o:Operand}→Nat→PX),TC.tr ⟨cT,cM,Z,@K⟩ hs us ut F=(pc Z @K,N,rs,np):=by (intro Z K; ((conv=>lhs; reduce) <;> exact rfl))) (hchk:chkF C.P f (pc cZ (@kon cZ)) N rs np=true:=by kernel_rfl)
    (w:∀ E:Env,∀ r,E.G=C.G→E.k0=0→Mk m→m'=r→AW C E (pc cZ (@kon cZ)) (Post rs (R r)) ⟨zG3 0 av,[],0⟩:=by
      (intro E r hG hK hm h; exact gogo)) (hnp:av.length=np:=by rfl):OkT f av (R m) :=
  ⟨zbv1 hchk hnp fun E hG _ hK=>w E m hG hK trivial u.symm⟩
theorem okm {α:Type} {m m':Option α} (u:m=m') {f:FuncId} {av:List A} {ms:List (Nat×Row)} {k k':Nat} (rv:α→List A) {ms':α→List (Nat×Row)} (F:Func) (hs:List (Nat×Nat)) {pc:(Nat→Nat→List A)→({o:Operand}→Nat→PX)→PC} {N np:Nat} {rs:List RX} {us ut:Nat} (hu:zcl8 F=(us,ut):=by ((conv=>lhs; reduce) <;> exact rfl)) (hp:∀ (Z:Nat→Nat→List A) (K:{o:Operand}→Nat→PX),TC.tr ⟨cT,cM,Z,@K⟩ hs us ut F=(pc Z @K,N,rs,np):=by (intro Z K; ((conv=>lhs; reduce) <;> exact rfl))) (hchk:chkF C.P f (pc cZ (@kon cZ)) N rs np=true:=by kernel_rfl)
    (w:∀ E:Env,∀ r,E.G=C.G→E.k0=k→Mk m→m'=some r→AW C E (pc cZ (@kon cZ)) (zcj7 k rs (rv r) (ms' r) k') ⟨zG3 0 av,ms,k⟩:=by
      (intro E r hG hK hm h; exact gogo))
    (hnp:av.length=np:=by rfl) (hms:zbW4 ms=true:=by rfl) (hall:zbz7 ms k=true:=by rfl) (hrl:∀ r,(rv r).length=rs.length:=by (intro r; rfl)):OkM m f av ms k (fun r=>zbW2 (rv r)) ms' k' :=
  ⟨fun r h=>zbW5 (rl:=rv r) hchk hnp hms hall (hrl r) fun E hG _ hK=>w E r hG hK trivial (u ▸ h)⟩
end
open Go.Shelf
theorem zdy8 (r:Row):(⟨[],[(0,r)],1⟩:St).m=setM (⟨[],[],0⟩:St).m [(0,.row r)]:=by
 funext x
 by_cases h:x=0
 ·subst h; simp [St.m,setM,look]
 ·simp [St.m,setM,look,h,Nat.one_le_iff_ne_zero]
theorem zcV6 {w:World} {W:Nat→Prop} {μ:Nat→Loc} {v:Value} (h:RepV w W μ v (.full [])):∃ a,v=.slice a 0 0:=by
 have h':RepC w W v (.full []):=h
 cases h' with
 | full a n es h1 =>
  cases h1 with
  | sl0=>exact ⟨_,rfl⟩
  | sl b off cap sz es us hb hlt hn=>simp at hn
def zcV7 (P:Program) (t:TypeId) (sz:Nat):Bool :=
 match P.info? t with
 | some i=>i.size == sz&&decide (0 < sz)&&(match i.zero with|some z=>z.cells.size == sz|none=>false)&&decide (4294967296 * i.bytes≤140737488355328)
 | none=>false
theorem zcV8 {C:Cx} {ρ:Ren} (L:Lays8.n4 C.P ρ) {sz:Nat} (hok:zcV7 C.P (ρ.t 25) sz=true)
  {f:FuncId} (hf:ρ.f 4=f) (zz:List A) (a0:Int) (h0:0≤a0) (h1:a0≤4294967296):MFn C f [.full [],.int .i64 a0] [] 0 (.own 0 0 0) [(0,⟨false,sz,zz,[]⟩)] 1:=by
 subst hf
 obtain ⟨i0,z,hi0,hz0,hsz,hpos,hzs,hby⟩:∃ i0 z,C.P.info? (ρ.t 25)=some i0∧i0.zero=some z∧i0.size=sz∧0 < sz∧z.cells.size=sz∧4294967296 * i0.bytes≤140737488355328:=by
  unfold zcV7 at hok
  split at hok
  ·rename_i i hi
   split at hok
   ·rename_i z hz
    simp only [bS,dI,bX] at hok
    obtain ⟨⟨⟨h1,h2⟩,h3⟩,h4⟩:=hok
    exact ⟨i,z,hi,hz,h1,h2,h3,h4⟩
   ·simp at hok
  ·simp at hok
 subst hsz
 intro w W μ vs hG hW hl hv hm hi
 obtain ⟨v0,v1,rfl⟩:∃ v0 v1,vs=[v0,v1]:=by
  match vs,hl with
  | [a,b],_=>exact ⟨a,b,rfl⟩
 obtain ⟨ad,rfl⟩:=zcV6 (hv 0 v0 (.full []) rfl rfl)
 have r1:RepC w W v1 (.int .i64 a0):=hv 1 v1 (.int .i64 a0) rfl rfl
 cases r1
 obtain ⟨n,rfl⟩:∃ n:Nat,a0=n:=⟨a0.toNat,by omega⟩
 have hid:(⟨[],[],0⟩:St).m 0=.fresh:=by simp [St.m]
 rw [zdy8]
 by_cases hn:n=0
 ·subst hn
  refine (Any8.slices_Grow_room L ad 0 0 0 w (cY _) (by omega) (by omega) (by omega)).mono fun e w' ⟨he,hw⟩=>?_
  subst hw
  exact ⟨_,W,_,he,Step.newEmpty hm hi hW hid hpos rfl (Keeps.refl _ _),zaO9 (by simp) 0⟩
 ·refine (Any8.slices_Grow_grow L i0 z hi0 hz0 hpos ad 0 0 n [] w (cY _) (by omega) ?_ (by omega) (by simp) (fun _=>rfl) (fun a _ j v h=>by simp at h)).mono fun e w' ⟨he,hw⟩=>?_
  ·simp only [dY]
   exact dX (dH _ (by omega)) hby
  have hc1:grownCap w (0+n) 0 (ρ.t 25)≤maxLen:=grownCap_le_maxLen w (0+n) 0 (ρ.t 25) (by simp only [maxLen]; omega)
  generalize hc:grownCap w (0+n) 0 (ρ.t 25)=c at *
  have hc0:0+n≤c:=by rw [← hc]; exact grownCap_ge _ _ _ _
  obtain ⟨R,hR⟩:∃ R:List Value,(([]:List Value).toArray++Builtin.zeroCells z.cells (0+n - 0)++Builtin.zeroCells z.cells (c - (0+n)))=R.toArray:=⟨_,Array.toArray_toList.symm⟩
  have hRl:R.length=c * i0.size:=by
   have:(R.toArray).size=c * i0.size:=by
    rw [← hR]
    simp only [Array.size_append,size_zeroCells,hzs,dY,iI,List.length_nil]
    rw [← dS]; congr 1; omega
   simpa using this
  rw [hR] at hw
  subst hw
  have hst:=Step.new (w':=w.drew.alloc (.cells (([]:List Value)++R).toArray (ρ.t 25))) hm hi hW hid (r:=⟨false,i0.size,zz,[]⟩) (us:=[]) (rest:=R) (e:=ρ.t 25) hpos (zY7 _ _)
   ⟨by simp,fun i c h=>by simp at h,fun i c j a h=>by simp at h⟩ (by simpa using heap_alloc_new w.drew _)
  refine ⟨_,_,_,he,hst,?_⟩
  have:=zap5 (w:=w.drew.alloc (.cells (([]:List Value)++R).toArray (ρ.t 25))) (W:=fun b=>W b∨b=w.heap.size)
   (μ:=fun x=>if x=0 then Loc.at_ ⟨w.heap.size,i0.size,([]:List Value).length+R.length⟩ else μ x) (x:=0) (lo:=0) (n:=0) (cap:=c)
   (k:=⟨w.heap.size,i0.size,([]:List Value).length+R.length⟩) (by simp) (by simp [hRl]) (eZ _) (by omega)
  simpa using this
open Go.Shelf Go.Sort
theorem zcV9 {w w':World} (h:Keeps (fun _=>False) w w'):∃ q os,w'=grow (w.drewN q) os:=by
 refine ⟨w'.drawn - w.drawn,w'.heap.extract w.heap.size w'.heap.size,?_⟩
 obtain ⟨h1,h2,h3,h4,h5,h6⟩:=h
 cases w with
 | mk hp tp dr os ou =>
  cases w' with
  | mk hp' tp' dr' os' ou' =>
   simp only at h1 h2 h3 h4 h5 h6
   subst h1; subst h2; subst h3
   simp only [grow,World.drewN,World.mk.injEq,gC,jZ]
   refine ⟨?_,by omega⟩
   apply Array.ext_getElem?
   intro i
   rw [Array.getElem?_append]
   split
   ·rename_i hlt; exact h6 i hlt (fun h=>h)
   ·rename_i hge
    simp only [Array.getElem?_extract]
    split
    ·congr 1; omega
    ·exact Array.getElem?_eq_none (by omega)
theorem zaY1 {E:Type} [Inhabited E] (enc:E→List Value) (k:Nat) (w:World) (b m:Nat) (d:Array E) (os:Array Obj):Keeps (fun x=>x=b) w (sortWorldK enc k w b 0 m d os):=by
 refine ⟨rfl,rfl,rfl,?_,?_,fun x hx hn=>?_⟩
 ·simp [sortWorldK,grow,putRowK,putRow,mapBlock,Go.Sort.ahead]
 ·simp only [sortWorldK,grow,putRowK,putRow,mapBlock,Go.Sort.heap_ahead,Array.size_append,Array.size_modify]; omega
 ·simp only [sortWorldK,grow,putRowK,putRow,mapBlock,Go.Sort.heap_ahead]
  rw [gU (by simpa using hx),Array.getElem?_modify,bT (kQ hn)]
theorem zcd4 (us F rest:List Value) (h:us.length=F.length):putCells id 0 F.toArray (us++rest).toArray=(F++rest).toArray:=by
 apply Array.ext_getElem?
 intro i
 simp only [putCells,Array.getElem?_mapIdx,fG,eZ,gC,dY,iI,Nat.sub_zero,id]
 by_cases hi:i < F.length
 ·rw [dN (by omega),dN hi]
  have:i < us.length:=by omega
  simp [hi,this]
 ·rw [fB (by omega),fB (by omega),h]
  simp [hi]
theorem zbK0 {E:Type} [Inhabited E] (enc:E→List Value) (k:Nat) (w:World) (b m:Nat) (d:Array E) (os:Array Obj) {us rest:List Value} {e:TypeId} (hb:w.heap[b]? = some (.cells (us++rest).toArray e (0,0)))
  (hu:us.length=d.size * k):(sortWorldK enc k w b 0 m d os).heap[b]? = some (.cells ((flatK enc k d).toList++rest).toArray e (0,0)):=by
 have hlt:b < w.heap.size:=(dJ.1 hb).1
 simp only [sortWorldK,grow,putRowK,putRow,mapBlock,Go.Sort.heap_ahead]
 rw [gU (by simpa using hlt),Array.getElem?_modify,bW rfl,hb]
 simp only [Option.map_some,onCells]
 rw [← Array.toArray_toList (xs:=flatK enc k d),zcd4 us _ rest (by simpa using hu)]
def nth (k:Nat) (us:List Value) (i:Nat):List Value:=(us.drop (i * k)).take k
theorem zbF4 {k n:Nat} {us:List Value} (h:us.length=n * k) {i:Nat} (hi:i < n):(nth k us i).length=k:=by
 have:(i+1) * k≤n * k:=dH _ hi
 rw [dS] at this
 simp [nth]; omega
theorem zcv9 {k:Nat} {us:List Value} {i j:Nat} (hj:j < k):(nth k us i)[j]? = us[i * k+j]? := by
 simp [nth,dP,hj]
theorem zcD8 {i k j:Nat} (hj:j < k):(i * k+j) / k=i∧(i * k+j) % k=j:=by
 have hpos:0 < k:=by omega
 exact ⟨by rw [kF,Nat.mul_add_div hpos,Nat.div_eq_of_lt hj,Nat.add_zero],by rw [kF,Nat.mul_add_mod,Nat.mod_eq_of_lt hj]⟩
theorem zcm0 {k n:Nat} (hpos:0 < k) {us:List Value} (h:us.length=n * k) [Inhabited (Fin n)] (d:Array (Fin n)) (t:Nat) (ht:t < d.size * k) :
  (flatK (fun i:Fin n=>nth k us i) k d).toList[t]? = us[(d[t / k]!).1 * k+t % k]? := by
 have hg:=get_flatK (fun i:Fin n=>nth k us i) k d t ht
 have hsz:t < (flatK (fun i:Fin n=>nth k us i) k d).size:=by simpa using ht
 rw [jC _ t hsz] at hg
 rw [jF,jR hsz,hg]
 have hj:t % k < k:=kE _ hpos
 have hl:=zbF4 h (d[t / k]!).2
 rw [← zcv9 (us:=us) (i:=(d[t / k]!).1) hj,List.getElem!_eq_getElem?_getD,bY (by omega)]
 rfl
theorem zdk6 {k n:Nat} (hpos:0 < k) {us:List Value} (h:us.length=n * k) [Inhabited (Fin n)]:(flatK (fun i:Fin n=>nth k us i) k (List.finRange n).toArray).toList=us:=by
 apply List.ext_getElem?
 intro t
 by_cases ht:t < n * k
 ·rw [zcm0 hpos h _ t (by simpa using ht)]
  have hi:t / k < n:=(gW hpos).2 ht
  have:((List.finRange n).toArray[t / k]!).1=t / k:=by rw [jC _ _ (by simpa using hi)]; simp
  rw [this,jI]
 ·rw [gX (by simpa using ht),gX (by omega)]
theorem zdy9 (r r':Row):(⟨[],[(0,r')],1⟩:St).m=setM (⟨[],[(0,r)],1⟩:St).m [(0,.row r')]:=by
 funext x
 by_cases h:x=0
 ·subst h; simp [St.m,setM,look]
 ·simp [St.m,setM,look,h,Nat.one_le_iff_ne_zero]
theorem zbK1 {C:Cx} {ρ:Ren} {T:Type} (L:SlLaysF0.n6 C.P ρ) (enc:T→List A) (k:Nat) (hk:∀ x,(enc x).length=k) (hpos:0 < k) (hpu:∀ x,zn2 (enc x)=true)
  (aE:∀ w,(isAgg (ρ.t 24)).run C.P w=.ok true w) (zE:∀ w,(Go.sizeOf (ρ.t 24)).run C.P w=.ok k w) (cf:T→T→Int) (hO:SWO (ltOf cf)) (g:Nat)
  (hcmp:∀ x y,PFn C g [.agg (enc x),.agg (enc y)] (.int .i64 (cf x y))) (eg:∀ args w,(callFunc g args).run C.P w=.ok (.enter g args) w) {f:FuncId} (hf:ρ.f 6=f) (zz:List A) (l:List T) (hl:l.length≤4294967296)
  (hT:∀ x ∈ l,∀ y ∈ l,(ltOf cf) x y=false→(ltOf cf) y x=false→x=y) :
  MFn C f [.own 0 0 l.length,.clo g []] [(0,⟨false,k,zz,l.map enc⟩)] 1 (.tup []) [(0,⟨false,k,zz,(l.mergeSort fun x y=>!(ltOf cf) y x).map enc⟩)] 1:=by
 subst hf
 intro w W μ vs hG hW hvl hv hm hi
 obtain ⟨v0,v1,rfl⟩:∃ v0 v1,vs=[v0,v1]:=by
  match vs,hvl with
  | [a,b],_=>exact ⟨a,b,rfl⟩
 have r0:RepP w W μ v0 (.own 0 0 l.length):=hv 0 v0 (.own 0 0 l.length) rfl rfl
 have r1:RepK w W μ v1 (.clo g []):=hv 1 v1 (.clo g []) rfl rfl
 obtain ⟨cs,rfl,hcs,_⟩:=r1
 have hcs0:cs=[]:=iW.1 (by simpa using hcs)
 subst hcs0
 have hm0:(⟨[],[(0,⟨false,k,zz,l.map enc⟩)],1⟩:St).m 0=.row ⟨false,k,zz,l.map enc⟩:=by simp [St.m,look]
 have none:∀ p cap,v0=.slice p 0 cap→l.length=0→Calls C.P (ρ.f 6) [v0,Value.func (.func g) #[] [].toArray].toArray w fun e w'=>∃ v W' μ',e=.returned v∧Step (⟨[],[(0,⟨false,k,zz,l.map enc⟩)],1⟩:St).m (⟨[],[(0,⟨false,k,zz,(l.mergeSort fun x y=>!(ltOf cf) y x).map enc⟩)],1⟩:St).m w w' W W' μ μ'∧Rep w' W' μ' v (.tup []):=by
  intro p cap hp h0
  subst hp
  have hl0:l=[]:=iW.1 h0
  subst hl0
  refine (AnyF.slices_SortFunc_none L p cap _ w).mono fun e w' ⟨he,hw⟩=>?_
  subst hw
  exact ⟨_,W,μ,he,by simpa using Step.quiet (Keeps.refl _ _) hm hi hW,⟨[],rfl,rfl,fun i u a h1 h2=>by simp at h1⟩⟩
 have hmm:=hm 0
 rw [hm0] at hmm
 obtain ⟨hone,r0⟩:=r0
 rcases hmm with ⟨h1,h2,h3⟩|⟨kb,h1,h2⟩
 ·rw [h1] at r0
  obtain ⟨hn,p,hp⟩:=r0
  exact none p 0 hp hn
 rw [h1] at r0
 rcases r0 with ⟨hn,p,hp⟩|⟨cap,hp,hcap,hle,hmax⟩
 ·exact none p 0 hp hn
 by_cases hn:l.length=0
 ·rw [hn] at hp
  exact none _ cap hp hn
 subst hp
 obtain ⟨hWb,hsz,_,us,rest,e0,hheap,htot,hflat⟩:=h2
 simp only at hWb hsz hflat
 haveI:Inhabited (Fin l.length):=⟨⟨0,by omega⟩⟩
 have hul:us.length=l.length * k:=by simpa using hflat.hl
 have hblk:kb.b < w.heap.size:=(dJ.1 hheap).1
 have hat:∀ (i:Nat) (hi:i < l.length) (j:Nat) (a:A),(enc l[i])[j]? = some a→∃ u,us[i * k+j]? = some u∧RepC w W u a:=fun i hi j a ha=>by
  obtain ⟨u,hu,hr⟩:=hflat.ha i (enc l[i]) j a (by rw [cL,bY hi]; rfl) ha
  exact ⟨u,hu,hr.toC (zaj4 (hpu l[i]) a (cN ha))⟩
 have hkeep:∀ {w':World},Keeps (fun x=>x=kb.b) w w'→∀ {u:Value} {a:A},RepC w W u a→RepC w' W u a:=fun hkp _ _ hr=>hr.keep hkp (fun b _ h1 h2=>h1 (h2 ▸ hWb trivial)) (fun _ _ h=>h)
 have hH:HoldsK (fun i:Fin l.length=>nth k us i) k w kb.b 0 (List.finRange l.length).toArray:=by
  intro j hj
  have hj':j < l.length * k:=by simpa using hj
  constructor
  ·simp only [World.cell?,hheap,dY,id]
   simp only [Option.isSome_none,bU,cA,fG]
   rw [dN (by omega)]
   conv=>lhs; rw [← zdk6 hpos hul]
   rw [jF,jR hj,jC _ j hj]
  ·simp only [World.frozen?,hheap]
   simp
 have hC:CmpLays C.P g #[] (fun i:Fin l.length=>nth k us i) k (fun i j=>cf l[i.1] l[j.1]) kb.b 0 (List.finRange l.length).toArray.size w:=by
  intro m os dk hdk x y
  have hkp:=zaY1 (fun i:Fin l.length=>nth k us i) k w kb.b m dk os
  have hG2:zbb3 (sortWorldK (fun i:Fin l.length=>nth k us i) k w kb.b 0 m dk os) W C.G:=fun q cs hq=>by
   obtain ⟨h1,h2,h3⟩:=hG q cs hq
   have hne:¬ q=kb.b:=fun h=>h1 (h ▸ hWb trivial)
   refine ⟨h1,eK h2 hkp.size,fun j a hj=>?_⟩
   obtain ⟨u,hu,hr⟩:=h3 j a hj
   exact ⟨u,(World.cell?_of_block (w:=w) (hkp.block q h2 hne)).trans hu,hkeep hkp hr⟩
  have agg:∀ x:Fin l.length,RepV (sortWorldK (fun i:Fin l.length=>nth k us i) k w kb.b 0 m dk os) W zat5 (.agg (nth k us x).toArray) (.agg (enc l[x.1])):=fun x =>
   ⟨_,rfl,by rw [zbF4 hul x.2,hk],fun i u a h1 h2=>by
    have hi:i < k:=by rw [← hk l[x.1]]; exact (cD.1 h2).1
    obtain ⟨u2,hu2,hr⟩:=hat x.1 x.2 i a h2
    rw [zcv9 hi,hu2] at h1
    cases h1
    exact zq1 (hkeep hkp hr)⟩
  refine (hcmp l[x.1] l[y.1] _ W [.agg (nth k us x).toArray,.agg (nth k us y).toArray] hG2 (fun b hb=>eK (hW b hb) hkp.size) rfl (fun i v a h1 h2=>?_)).mono fun e w' ⟨v,he,hkeep,hr⟩=>?_
  ·match i with
   | 0=>cases h1; cases h2; exact agg x
   | 1=>cases h1; cases h2; exact agg y
   | n+2=>simp at h1
  ·have hr':RepC w' W v (.int .i64 (cf l[x.1] l[y.1])):=hr
   cases hr'
   exact ⟨he,zcV9 hkeep⟩
 rw [jN]
 have hO2:SWO (ltOf fun (i j:Fin l.length)=>cf l[i.1] l[j.1]):=⟨fun x=>hO.irrefl _,fun x y z h1 h2=>hO.trans _ _ _ h1 h2,fun x y z h1 h2=>hO.ntrans _ _ _ h1 h2⟩
 have hrun:=AnyQ.slices_SortFunc L k aE zE (fun i:Fin l.length=>nth k us i) (fun x=>zbF4 hul x.2) (fun x v h=>?_) (fun i j=>cf l[i.1] l[j.1]) hO2 g #[] kb.b 0 cap (List.finRange l.length).toArray w eg hC hH hblk (by simp; omega)
 ·rw [show (List.finRange l.length).toArray.size=l.length by simp] at hrun
  refine hrun.mono fun e w' ⟨he,d',n,os,hp,hs,hw⟩=>?_
  subst hw
  obtain ⟨hsz',_,hperm⟩:=hp
  rw [show (List.finRange l.length).toArray.size=l.length by simp] at hsz'
  have x1:=@Array.extract_size _ d'
  have x2:=@Array.extract_size _ (List.finRange l.length).toArray
  rw [hsz'] at x1; rw [show (List.finRange l.length).toArray.size=l.length by simp] at x2
  rw [x1,x2] at hperm
  have hres:d'.toList.map (fun i:Fin l.length=>l[i.1])=l.mergeSort fun x y=>!(ltOf cf) y x:=by
   have p1:(d'.toList.map (fun i:Fin l.length=>l[i.1])).Perm l:=by
    have:=hperm.map (fun i:Fin l.length=>l[i.1])
    refine this.trans (.of_eq ?_)
    apply kB
    ·simp
    ·intro i h1 h2; simp
   refine iU (le:=fun x y=>(!ltOf cf y x)=true) ?_ ?_ ?_ (p1.trans (iT _ _).symm)
   ·intro a b ha hb h1 h2
    simp only [cS] at h1 h2
    exact hT a (p1.subset ha) b ((iT _ _).subset hb) h2 h1
   ·rw [dO]
    intro i j hi hj hij
    have hi':i < d'.size:=by simpa using hi
    have hj':j < d'.size:=by simpa using hj
    have:=hs i j (eZ _) hij (by omega)
    rw [jC d' i hi',jC d' j hj'] at this
    simpa [ltOf] using this
   ·exact iX (fun a b c h1 h2=>by simp only [cS] at *; exact hO.ntrans _ _ _ h2 h1) (fun a b=>by
     cases hab:ltOf cf b a
     ·rfl
     ·cases hba:ltOf cf a b
      ·simp
      ·have:=hO.trans _ _ _ hab hba
       rw [hO.irrefl] at this; cases this) _
  have hkp:=zaY1 (fun i:Fin l.length=>nth k us i) k w kb.b n d' os
  refine ⟨_,W,μ,he,?_,⟨[],rfl,rfl,fun i u a h1 h2=>by simp at h1⟩⟩
  rw [zdy9 ⟨false,k,zz,l.map enc⟩ ⟨false,k,zz,(l.mergeSort fun x y=>!(ltOf cf) y x).map enc⟩]
  refine Step.write (r':=⟨false,k,zz,(l.mergeSort fun x y=>!(ltOf cf) y x).map enc⟩) hm hi hW h1 hm0 rfl rfl hkp ?_ (zbK0 (fun i:Fin l.length=>nth k us i) k w kb.b n _ os hheap (by rw [hul,hsz'])) (by
    rw [← htot,hul]; simp [hsz'])
  simp only
  rw [← hres]
  refine ⟨by simp,fun i c h=>?_,fun i c j a hc ha=>?_⟩
  ·rw [kJ,cL] at h
   obtain ⟨x,_,rfl⟩:=cG.1 h
   exact hk _
  ·rw [kJ,cL] at hc
   obtain ⟨x,hx,rfl⟩:=cG.1 hc
   have hj:j < k:=by rw [← hk l[x.1]]; exact (cD.1 ha).1
   obtain ⟨hi,hxi⟩:=cD.1 hx
   have hi':i < d'.size:=by simpa using hi
   have hlt:i * k+j < d'.size * k:=by
    have:(i+1) * k≤d'.size * k:=dH _ hi'
    rw [dS] at this; omega
   obtain ⟨u,hu,hr⟩:=hat x.1 x.2 j a ha
   refine ⟨u,?_,zq1 hr⟩
   rw [zcm0 hpos hul d' _ hlt,(zcD8 hj).1,(zcD8 hj).2,jC d' i hi',show d'[i]=x by simpa using hxi]
   exact hu
 ·have hx:=x.2
  obtain ⟨j,hj,e⟩:=eV h
  have hj2:j < k:=by rw [← zbF4 hul x.2]; exact hj
  have hj3:j < (enc l[x.1]).length:=by rw [hk]; exact hj2
  have ha:(enc l[x.1])[j]? = some ((enc l[x.1])[j]'hj3):=bY hj3
  obtain ⟨u,hu,hr⟩:=hat x.1 hx j _ ha
  have:some v=some u:=by rw [← hu,← zcv9 (us:=us) hj2,bY hj,e]
  cases this
  exact hr.oneCell
theorem zcD9 {T U:Type} {cf:U→U→Int} (g:T→U) (h:SWO (ltOf cf)):SWO (ltOf fun x y=>cf (g x) (g y)):=⟨fun x=>h.irrefl _,fun x y z h1 h2=>h.trans _ _ _ h1 h2,fun x y z h1 h2=>h.ntrans _ _ _ h1 h2⟩
theorem zcd5 {T:Type} {cf:T→T→Int}:∀ {l:List T},(l.Pairwise fun x y=>cf x y < 0∨cf y x < 0)→∀ x ∈ l,∀ y ∈ l,ltOf cf x y=false→ltOf cf y x=false→x=y
 | [],_,_,hx,_,_,_,_=>nomatch hx
 | a :: l,h,x,hx,y,hy,h1,h2=>by
  obtain ⟨k1,k2⟩:=cP.1 h
  simp only [ltOf,cR] at h1 h2
  rcases cE.1 hx with e|mx
  ·rcases cE.1 hy with k|my
   ·rw [e,k]
   ·subst e; exact absurd (k1 y my) (fun c=>c.elim h1 h2)
  ·rcases cE.1 hy with e|my
   ·subst e; exact absurd (k1 x mx) (fun c=>c.elim h2 h1)
   ·exact zcd5 k2 x mx y my (by simpa [ltOf] using h1) (by simpa [ltOf] using h2)
end Ab
end Go.Proofs.YtfkjffmjkbkmhaaGreatDoor
