import Derived.Test.YtebopmkhhppfaaaGreatDoorTabB
namespace Go.Proofs.YtebopmkhhppfaaaGreatDoor
namespace Ab
set_option linter.unusedVariables false
set_option linter.unusedSimpArgs false
mutual
def zh6:Expr→Int
 | ⟨_,_,ks⟩=>1+zk2 ks
def zk2:List Expr→Int
 | []=>0
 | k :: l=>max (zh6 k) (zk2 l)
end
mutual
def zg2:Expr→Int
 | ⟨_,_,ks⟩=>1+zp4 ks
def zp4:List Expr→Int
 | []=>0
 | k :: l=>zg2 k+zp4 l
end
def zah8 (a:Amount):Bool:=zq6 a
mutual
def okE:Expr→Bool
 | ⟨k,a,ks⟩=>if ks.length=0 then decide (k=0)&&zN6 a.name&&zah8 a.amount else decide (1≤k)&&decide (k≤(ks.length:Int))&&decide (a=Atom.zero)&&okL ks
def okL:List Expr→Bool
 | []=>true
 | k :: l=>okE k&&okL l
end
mutual
def zak4:Expr→List Atom
 | ⟨_,a,ks⟩=>if ks.length=0 then [a] else zad3 ks
def zad3:List Expr→List Atom
 | []=>[]
 | k :: l=>zak4 k++zad3 l
end
theorem zay1 (e:Expr):zh6 e=1+zk2 e.kids:=by cases e; rw [zh6]
theorem zJ3 (e:Expr):zg2 e=1+zp4 e.kids:=by cases e; rw [zg2]
theorem zbA0 (e:Expr):okE e=if e.kids.length=0 then decide (e.k=0)&&zN6 e.atom.name&&zah8 e.atom.amount else decide (1≤e.k)&&decide (e.k≤(e.kids.length:Int))&&decide (e.atom=Atom.zero)&&okL e.kids:=by cases e; rw [okE]
theorem zar5 (e:Expr):zak4 e=if e.kids.length=0 then [e.atom] else zad3 e.kids:=by cases e; rw [zak4]
theorem zaO4:zk2 []=0:=by rw [zk2]
theorem zam1 (k:Expr) (l:List Expr):zk2 (k :: l)=max (zh6 k) (zk2 l):=by rw [zk2]
theorem zaA9:zp4 []=0:=by rw [zp4]
theorem zY8 (k:Expr) (l:List Expr):zp4 (k :: l)=zg2 k+zp4 l:=by rw [zp4]
theorem zac6 {e k:Expr} {n:Nat} (h:_root_.SizeOf.sizeOf e < n+1) (hk:k ∈ e.kids):_root_.SizeOf.sizeOf k < n:=by
 have h2:=List.sizeOf_lt_of_mem hk
 cases e
 simp at h h2
 omega
theorem zbd2:∀ (n:Nat) (e:Expr),_root_.SizeOf.sizeOf e < n→1≤zh6 e∧1≤zg2 e∧zh6 e≤zg2 e∧((zak4 e).length:Int)≤zg2 e
 | 0,_,h=>by omega
 | n+1,e,h=>by
  have key:∀ l:List Expr,(∀ k ∈ l,k ∈ e.kids)→0≤zk2 l∧0≤zp4 l∧zk2 l≤zp4 l∧(l.length:Int)≤zp4 l∧((zad3 l).length:Int)≤zp4 l:=by
   intro l
   induction l with
   | nil=>intro _; simp [zk2,zp4,zad3]
   | cons k l ih =>
    intro hl
    obtain ⟨h1,h2,h3,h4,h5⟩:=ih fun x hx=>hl x (.tail _ hx)
    obtain ⟨g1,g2,g3,g4⟩:=zbd2 n k (zac6 h (hl k (.head _)))
    simp only [zk2,zp4,zad3,List.length_append,List.length_cons]
    refine ⟨?_,?_,?_,?_,?_⟩ <;> omega
  obtain ⟨h1,h2,h3,h4,h5⟩:=key e.kids fun _ h=>h
  rw [zay1,zJ3,zar5]
  refine ⟨by omega,by omega,by omega,?_⟩
  split
  ·simp; omega
  ·omega
theorem zU5 (e:Expr):1≤zh6 e:=(zbd2 _ e (Nat.lt_succ_self _)).1
theorem zQ6 (e:Expr):1≤zg2 e:=(zbd2 _ e (Nat.lt_succ_self _)).2.1
theorem zbm7 (e:Expr):((zak4 e).length:Int)≤zg2 e:=(zbd2 _ e (Nat.lt_succ_self _)).2.2.2
theorem zar6:∀ l:List Expr,0≤zk2 l
 | []=>by simp [zk2]
 | k :: l=>by have:=zar6 l; have:=zU5 k; rw [zam1]; omega
theorem zz8:∀ l:List Expr,(l.length:Int)≤zp4 l
 | []=>by simp [zp4]
 | k :: l=>by have:=zz8 l; have:=zQ6 k; simp only [zp4,List.length_cons]; omega
theorem zaT1 {a:Int} (h1:1≤a) (h4:a≤4) (F:Expr→Int→Option (Int×Int)):∀ (l:List Expr),(∀ k ∈ l,∀ c,0≤c→c≤24→∃ c',F k c=some (if a+1+zh6 k≤5∧c+zg2 k≤24 then (zh6 k,c+zg2 k) else (0,c'))) →
  ∀ (i:Nat) (m c:Int),0≤m→0≤c→c≤24→∃ c',walk (fun _ k (s:Int×Int)=>(F k s.2).bind fun v=>if v.1=0 then some (.inr (Sum.inr (0,v.2))) else some (.inl (if s.1 < v.1 then v.1 else s.1,v.2))) (fun s=>Sum.inl (β:=Int×Int) s) l i (m,c) =
   some (if a+1+zk2 l≤5∧c+zp4 l≤24 then .inl (if m < zk2 l then zk2 l else m,c+zp4 l) else .inr (0,c'))
 | [],_,i,m,c,hm,hc,h24=>⟨0,by rw [zaO4,zaA9,if_pos (by omega)]; simp only [walk]; rw [if_neg (by omega),Int.add_zero]⟩
 | k :: l,hF,i,m,c,hm,hc,h24=>by
  obtain ⟨c1,e1⟩:=hF k (.head _) c hc h24
  have p1:=zU5 k
  have p2:=zQ6 k
  have p3:=zar6 l
  have p4:=zz8 l
  by_cases hk:a+1+zh6 k≤5∧c+zg2 k≤24
  ·rw [if_pos hk] at e1
   obtain ⟨c2,e2⟩:=zaT1 h1 h4 F l (fun x hx=>hF x (.tail _ hx)) (i+1) (if m < zh6 k then zh6 k else m) (c+zg2 k) (by split <;> omega) (by omega) hk.2
   refine ⟨c2,?_⟩
   rw [zam1,zY8]
   simp only [walk,e1,Option.bind_some,if_neg (show ¬ zh6 k=0 by omega),e2]
   by_cases hl:a+1+zk2 l≤5∧c+zg2 k+zp4 l≤24
   ·rw [if_pos hl,if_pos (show a+1+max (zh6 k) (zk2 l)≤5∧c+(zg2 k+zp4 l)≤24 by omega),show c+(zg2 k+zp4 l)=c+zg2 k+zp4 l by omega]
    refine congrArg some (congrArg Sum.inl (Prod.ext ?_ rfl))
    show (if (if m < zh6 k then zh6 k else m) < zk2 l then zk2 l else if m < zh6 k then zh6 k else m)=if m < max (zh6 k) (zk2 l) then max (zh6 k) (zk2 l) else m
    by_cases q1:m < zh6 k <;> by_cases q2:m < zk2 l <;> by_cases q3:zh6 k < zk2 l <;> simp only [q1,q2,q3,if_true,if_false] <;> (repeat' split) <;> omega
   ·rw [if_neg hl,if_neg (by omega)]
  ·rw [if_neg hk] at e1
   refine ⟨c1,?_⟩
   rw [zam1,zY8]
   simp only [walk,e1,Option.bind_some,if_true]
   rw [if_neg (by omega)]
theorem zbm8:∀ (n:Nat) (e:Expr),_root_.SizeOf.sizeOf e < n→∀ a c,1≤a→a≤5→0≤c→c≤24→∃ c',zm3 n e a c=some (if a+zh6 e≤5∧c+zg2 e≤24 then (zh6 e,c+zg2 e) else (0,c'))
 | 0,_,h,_,_,_,_,_,_=>by omega
 | n+1,e,h,a,c,h1,h5,h0,h24=>by
  show ∃ c',zE3 (zm3 n) e a c=_
  unfold zE3
  have p1:=zU5 e
  have p2:=zQ6 e
  have w1:IntKind.i64.wrap (c+1)=c+1:=zc4 (by omega) (by omega)
  have w2:IntKind.i64.wrap (a+1)=a+1:=zc4 (by omega) (by omega)
  rw [w1]
  by_cases c4:4 < a∨24 < c+1
  ·rw [if_pos (by simpa using c4)]
   exact ⟨c+1,by rw [if_neg (by omega)]⟩
  ·rw [if_neg (by simpa using c4)]
   have hF:∀ k ∈ e.kids,∀ c,0≤c→c≤24→∃ c',zm3 n k (a+1) c=some (if a+1+zh6 k≤5∧c+zg2 k≤24 then (zh6 k,c+zg2 k) else (0,c')) :=
    fun k hk c h0 h24=>zbm8 n k (zac6 h hk) (a+1) c (by omega) (by omega) h0 h24
   have key:=zv5 (body:=zC3 (zm3 n) e a) e.kids Expr.zero (fun i (s:Int×Int)=>(s.1,(i:Int),s.2))
    (fun _ k (s:Int×Int)=>(zm3 n k (a+1) s.2).bind fun v=>if v.1=0 then some (.inr (Sum.inr (0,v.2))) else some (.inl (if s.1 < v.1 then v.1 else s.1,v.2))) (fun s=>Sum.inl (β:=Int×Int) s)
    (fun i s=>(i:Int) < s.2∧s.2≤24) (fun i s hi hs=>by
     have hk:=zY7 (z:=Expr.zero) hi
     obtain ⟨c',e'⟩:=hF _ hk s.2 (by omega) hs.2
     have p2:=zQ6 (e.kids.getD i Expr.zero)
     have p3:=zU5 (e.kids.getD i Expr.zero)
     refine ⟨?_,fun s' hs'=>?_⟩
     ·unfold zC3
      simp only
      rw [if_pos (by simpa using hi),gdp (by omega),w2]
      simp only [Int.toNat_natCast,e',Option.bind_some,decide_eq_true_eq,ze6 i (show i < 4611686018427387904 by omega)]
      by_cases cc:a+1+zh6 (e.kids.getD i Expr.zero)≤5∧s.2+zg2 (e.kids.getD i Expr.zero)≤24
      ·simp only [cc,and_self,if_true,if_neg (show ¬ zh6 (e.kids.getD i Expr.zero)=0 by omega)]; rfl
      ·simp only [cc,if_false,if_true]; rfl
     ·rw [e',Option.bind_some] at hs'
      by_cases cc:a+1+zh6 (e.kids.getD i Expr.zero)≤5∧s.2+zg2 (e.kids.getD i Expr.zero)≤24
      ·simp only [cc,and_self,if_true,if_neg (show ¬ zh6 (e.kids.getD i Expr.zero)=0 by omega),Option.some.injEq,Sum.inl.injEq] at hs'
       subst hs'
       simp only
       omega
      ·simp only [cc,if_false,if_true,Option.some.injEq,reduceCtorEq] at hs')
    (fun s hs=>by unfold zC3; simp) (0,c+1) (by simp only; omega)
   rw [show ((0,0,c+1):Int×Int×Int)=(fun (i:Nat) (s:Int×Int)=>(s.1,(i:Int),s.2)) 0 (0,c+1) from rfl,key]
   obtain ⟨c',e'⟩:=zaT1 h1 (by omega) (fun k c=>zm3 n k (a+1) c) e.kids hF 0 0 (c+1) (by decide) (by omega) (by omega)
   refine ⟨c',?_⟩
   rw [e',Option.bind_some,zay1 e,zJ3 e]
   have p3:=zar6 e.kids
   by_cases hh:a+1+zk2 e.kids≤5∧c+1+zp4 e.kids≤24
   ·rw [if_pos hh,if_pos (show a+(1+zk2 e.kids)≤5∧c+(1+zp4 e.kids)≤24 by omega)]
    have:(if 0 < zk2 e.kids then zk2 e.kids else 0)=zk2 e.kids:=by split <;> omega
    rw [this]
    show some (IntKind.i64.wrap (zk2 e.kids+1),c+1+zp4 e.kids)=_
    rw [zc4 (by omega) (by omega),show zk2 e.kids+1=1+zk2 e.kids by omega,show c+1+zp4 e.kids=c+(1+zp4 e.kids) by omega]
   ·rw [if_neg hh,if_neg (by omega)]
def fitE (e:Expr):Bool:=decide (zh6 e≤4)&&decide (zg2 e≤24)
theorem zcv1 (e:Expr):zq2 e=some (if fitE e=true then zh6 e else 0):=by
 unfold zq2 zn0
 obtain ⟨c',h⟩:=zbm8 _ e (Nat.lt_succ_self _) 1 0 (by decide) (by decide) (by decide) (by decide)
 rw [h,Option.bind_some]
 unfold fitE
 by_cases c:1+zh6 e≤5∧0+zg2 e≤24
 ·rw [if_pos c,if_pos (by simp; omega)]
 ·rw [if_neg c,if_neg (by simp; omega)]
theorem zbv1 {a:Int} (h1:1≤a) (h4:a≤4) (F:Expr→Option (Int×Int)):∀ (l:List Expr),(∀ k ∈ l,F k=some (if a+1+zh6 k≤5∧zg2 k≤24 then (zg2 k,zh6 k) else (25,0))) →
  ∀ (i:Nat) (c m:Int),0≤m→1≤c→c≤24→walk (fun _ k (s:Int×Int)=>(F k).bind fun v=>if 24 < s.1+v.1 then some (.inr (Sum.inr (25,0))) else some (.inl (s.1+v.1,if s.2 < v.2 then v.2 else s.2))) (fun s=>Sum.inl (β:=Int×Int) s) l i (c,m) =
   some (if a+1+zk2 l≤5∧c+zp4 l≤24 then .inl (c+zp4 l,if m < zk2 l then zk2 l else m) else .inr (25,0))
 | [],_,i,c,m,hm,hc,h24=>by rw [zaO4,zaA9,if_pos (by omega)]; simp only [walk]; rw [if_neg (by omega),Int.add_zero]
 | k :: l,hF,i,c,m,hm,hc,h24=>by
  have e1:=hF k (.head _)
  have p1:=zU5 k
  have p2:=zQ6 k
  have p3:=zar6 l
  have p4:=zz8 l
  rw [zam1,zY8]
  by_cases hk:a+1+zh6 k≤5∧c+zg2 k≤24
  ·rw [if_pos (by omega)] at e1
   have e2:=zbv1 h1 h4 F l (fun x hx=>hF x (.tail _ hx)) (i+1) (c+zg2 k) (if m < zh6 k then zh6 k else m) (by split <;> omega) (by omega) hk.2
   simp only [walk,e1,Option.bind_some,if_neg (show ¬ 24 < c+zg2 k by omega),e2]
   by_cases hl:a+1+zk2 l≤5∧c+zg2 k+zp4 l≤24
   ·rw [if_pos hl,if_pos (show a+1+max (zh6 k) (zk2 l)≤5∧c+(zg2 k+zp4 l)≤24 by omega),show c+(zg2 k+zp4 l)=c+zg2 k+zp4 l by omega]
    refine congrArg some (congrArg Sum.inl (Prod.ext rfl ?_))
    show (if (if m < zh6 k then zh6 k else m) < zk2 l then zk2 l else if m < zh6 k then zh6 k else m)=if m < max (zh6 k) (zk2 l) then max (zh6 k) (zk2 l) else m
    by_cases q1:m < zh6 k <;> by_cases q2:m < zk2 l <;> by_cases q3:zh6 k < zk2 l <;> simp only [q1,q2,q3,if_true,if_false] <;> (repeat' split) <;> omega
   ·rw [if_neg hl,if_neg (by omega)]
  ·rw [if_neg (by omega)]
   simp only [walk,e1,Option.bind_some]
   by_cases hh:a+1+zh6 k≤5∧zg2 k≤24
   ·rw [if_pos hh,if_pos (by simp only; omega)]
   ·rw [if_neg hh,if_pos (by simp only; omega)]
theorem zbN9:∀ (n:Nat) (e:Expr),_root_.SizeOf.sizeOf e < n→∀ a,1≤a→a≤5→zB6 n e a=some (if a+zh6 e≤5∧zg2 e≤24 then (zg2 e,zh6 e) else (25,0))
 | 0,_,h,_,_,_=>by omega
 | n+1,e,h,a,h1,h5=>by
  show zX9 (zB6 n) e a=_
  unfold zX9
  have p1:=zU5 e
  have p4:=zz8 e.kids
  have w2:IntKind.i64.wrap (a+1)=a+1:=zc4 (by omega) (by omega)
  by_cases c4:4 < a∨24 < (e.kids.length:Int)
  ·rw [if_pos (by simpa using c4),if_neg (by rw [zJ3]; omega)]
  ·rw [if_neg (by simpa using c4)]
   have hF:∀ k ∈ e.kids,zB6 n k (a+1)=some (if a+1+zh6 k≤5∧zg2 k≤24 then (zg2 k,zh6 k) else (25,0)) :=
    fun k hk=>zbN9 n k (zac6 h hk) (a+1) (by omega) (by omega)
   have key:=zv5 (body:=zV4 (zB6 n) e a) e.kids Expr.zero (fun i (s:Int×Int)=>(s.1,s.2,(i:Int)))
    (fun _ k (s:Int×Int)=>(zB6 n k (a+1)).bind fun v=>if 24 < s.1+v.1 then some (.inr (Sum.inr (25,0))) else some (.inl (s.1+v.1,if s.2 < v.2 then v.2 else s.2))) (fun s=>Sum.inl (β:=Int×Int) s)
    (fun i s=>1≤s.1∧s.1≤24) (fun i s hi hs=>by
     have hk:=zY7 (z:=Expr.zero) hi
     have e':=hF _ hk
     have p2:=zQ6 (e.kids.getD i Expr.zero)
     refine ⟨?_,fun s' hs'=>?_⟩
     ·unfold zV4
      simp only
      rw [if_pos (by simpa using hi),gdp (by omega),w2]
      simp only [Int.toNat_natCast,e',Option.bind_some,decide_eq_true_eq]
      unfold zV3
      by_cases cc:a+1+zh6 (e.kids.getD i Expr.zero)≤5∧zg2 (e.kids.getD i Expr.zero)≤24
      ·rw [if_pos cc]
       simp only [ze6 i (show i < 4611686018427387904 by omega),zc4 (x:=s.1+zg2 (e.kids.getD i Expr.zero)) (by omega) (by omega),decide_eq_true_eq]
       repeat' split
       all_goals first|rfl|omega
      ·rw [if_neg cc]
       simp only [zc4 (x:=s.1+25) (by omega) (by omega),decide_eq_true_eq,if_pos (show 24 < s.1+25 by omega),ite_self]
       rfl
     ·rw [e',Option.bind_some] at hs'
      by_cases cc:a+1+zh6 (e.kids.getD i Expr.zero)≤5∧zg2 (e.kids.getD i Expr.zero)≤24
      ·simp only [cc,and_self,if_true] at hs'
       split at hs'
       ·cases hs'
       ·simp only [Option.some.injEq,Sum.inl.injEq] at hs'
        subst hs'
        simp only
        omega
      ·simp only [cc,if_false,if_pos (show 24 < s.1+25 by omega),Option.some.injEq,reduceCtorEq] at hs')
    (fun s hs=>by unfold zV4; simp) (1,0) (by simp only; omega)
   rw [show ((1,0,0):Int×Int×Int)=(fun (i:Nat) (s:Int×Int)=>(s.1,s.2,(i:Int))) 0 (1,0) from rfl,key]
   rw [zbv1 h1 (by omega) (fun k=>zB6 n k (a+1)) e.kids hF 0 1 0 (by omega) (by omega) (by omega),Option.bind_some,zay1 e,zJ3 e]
   have p3:=zar6 e.kids
   by_cases hh:a+1+zk2 e.kids≤5∧1+zp4 e.kids≤24
   ·rw [if_pos hh,if_pos (show a+(1+zk2 e.kids)≤5∧1+zp4 e.kids≤24 by omega)]
    have:(if 0 < zk2 e.kids then zk2 e.kids else 0)=zk2 e.kids:=by split <;> omega
    rw [this]
    show some (1+zp4 e.kids,IntKind.i64.wrap (zk2 e.kids+1))=_
    rw [zc4 (by omega) (by omega),show zk2 e.kids+1=1+zk2 e.kids by omega]
   ·rw [if_neg hh,if_neg (by omega)]
theorem zcv2 (e:Expr):zB7 e=some (if fitE e=true then zg2 e else 0):=by
 unfold zB7 zO8
 have p:=zQ6 e
 rw [zbN9 _ e (Nat.lt_succ_self _) 1 (by decide) (by decide),Option.bind_some]
 unfold fitE
 by_cases c:1+zh6 e≤5∧zg2 e≤24
 ·rw [if_pos c]
  simp only [show ¬ 24 < zg2 e by omega,show zh6 e≤4 by omega,c.2,decide_true,decide_false,Bool.and_self,Bool.false_eq_true,if_true,if_false]
 ·rw [if_neg c]
  have:(decide (zh6 e≤4)&&decide (zg2 e≤24))=false:=by rw [Bool.eq_false_iff]; simp; omega
  rw [this]
  rfl
end Ab
end Go.Proofs.YtebopmkhhppfaaaGreatDoor
namespace Go.Proofs.YtebopmkhhppfaaaGreatDoor
namespace Ab
set_option linter.unusedVariables false
set_option linter.unusedSimpArgs false
def zar7 (a:Atom):List Atom→Option Bool
 | []=>none
 | x :: l=>if a=x then some true else if (a.name.toList == x.name.toList)=true then some false else zar7 a l
def zaT2 (a:Atom) (l:List Atom):Int×List Atom :=
 match zar7 a l with
 | some true=>(0,l)
 | some false=>(13,l)
 | none=>if l.length=8 then (4,l) else (0,l++[a])
def zbm9 (a:Atom) (l:List Atom):Option (List Atom):=if (zaT2 a l).1=0 then some (zaT2 a l).2 else none
def zae6:List Atom→List Atom→Option (List Atom)
 | [],l=>some l
 | a :: az,l=>(zbm9 a l).bind (zae6 az)
theorem zbn0:∀ (x y l:List Atom),zae6 (x++y) l=(zae6 x l).bind (zae6 y)
 | [],y,l=>rfl
 | a :: x,y,l=>by
  simp only [List.cons_append,zae6]
  cases zbm9 a l with
  | none=>rfl
  | some l'=>exact zbn0 x y l'
theorem zcv3 {a:Atom} {l:List Atom} (h:l.length≤8):(zaT2 a l).2.length≤8:=by
 unfold zaT2
 split
 ·exact h
 ·exact h
 ·split
  ·exact h
  ·simp; omega
theorem zaX7:∀ {x l r:List Atom},l.length≤8→zae6 x l=some r→r.length≤8
 | [],l,r,h,e=>by cases e; exact h
 | a :: x,l,r,h,e=>by
  simp only [zae6] at e
  unfold zbm9 at e
  split at e
  ·exact zaX7 (zcv3 h) e
  ·cases e
theorem zcA7 (a:Atom) (l:List Atom) (h:l.length≤8):zo2 a l=some (zaT2 a l):=by
 unfold zo2
 have hw:∀ (t:List Atom) (i:Nat),walk (fun _ x (_:Unit)=>if a=x then some (.inr (Sum.inr ((0:Int),l))) else if (a.name.toList == x.name.toList)=true then some (.inr (Sum.inr ((13:Int),l))) else some (.inl ())) (fun _=>Sum.inl (β:=Int×List Atom) ()) t i () =
   some (match zar7 a t with|some true=>.inr (0,l)|some false=>.inr (13,l)|none=>.inl ()):=by
  intro t
  induction t with
  | nil=>intro i; rfl
  | cons x t ih =>
   intro i
   simp only [walk,zar7]
   by_cases c:a=x
   ·simp only [c,if_true]
   ·by_cases c2:(a.name.toList == x.name.toList)=true
    ·simp only [c,c2,if_true,if_false]
    ·simp only [c,c2,if_false]; exact ih (i+1)
 have key:=zai5 (body:=zK2 a l) l Atom.zero (fun i (_:Unit)=>(i:Int))
  (fun _ x (_:Unit)=>if a=x then some (.inr (Sum.inr ((0:Int),l))) else if (a.name.toList == x.name.toList)=true then some (.inr (Sum.inr ((13:Int),l))) else some (.inl ())) (fun _=>Sum.inl (β:=Int×List Atom) ())
  (fun i s hi=>by
   unfold zK2
   rw [if_pos (by simpa using hi),gdp (by omega),ze6 i (by omega)]
   simp only [Int.toNat_natCast,decide_eq_true_eq]
   repeat' split
   all_goals rfl)
  (fun s=>by unfold zK2; simp) ()
 rw [show (0:Int)=(fun (i:Nat) (_:Unit)=>(i:Int)) 0 () from rfl,key,hw,Option.bind_some]
 unfold zaT2
 cases zar7 a l with
 | none =>
  simp only
  unfold zQ9
  by_cases c:l.length=8
  ·rw [if_pos (by simp [c]),if_pos c]
  ·rw [if_neg (by simp; omega),if_neg c,gdp (by omega)]
 | some b=>cases b <;> rfl
def zX0 (e:Expr) (l:List Atom):Option (List Atom):=if okE e=true then zae6 (zak4 e) l else none
def zba4 (ks:List Expr) (l:List Atom):Option (List Atom):=if okL ks=true then zae6 (zad3 ks) l else none
theorem zbJ4 (k:Expr) (ks:List Expr) (l:List Atom):zba4 (k :: ks) l=(zX0 k l).bind (zba4 ks):=by
 unfold zba4 zX0
 simp only [okL,zad3,zbn0]
 cases okE k
 ·simp
 ·simp only [Bool.true_and,if_true]
  cases zae6 (zak4 k) l with
  | none=>simp
  | some r=>simp only [Option.bind_some]
theorem zbA1 (a:Atom):zk0 a=some (zN6 a.name&&zah8 a.amount):=by
 unfold zk0
 rw [zaC9,Option.bind_some]
 congr 2
theorem zba5 (F:Expr→List Atom→Option (Bool×List Atom)):∀ (ks:List Expr),(∀ k ∈ ks,∀ l,l.length≤8→∃ r,F k l=some (match zX0 k l with|some l'=>(true,l')|none=>(false,r))) →
  ∀ (i:Nat) (l:List Atom),l.length≤8→∃ r,walk (fun _ k (s:List Atom)=>(F k s).bind fun v=>if (!v.1)=true then some (.inr (Sum.inr (false,v.2))) else some (.inl v.2)) (fun s=>Sum.inl (β:=Bool×List Atom) s) ks i l =
   some (match zba4 ks l with|some l'=>.inl l'|none=>.inr (false,r))
 | [],_,i,l,hl=>⟨[],by simp [walk,zba4,okL,zad3,zae6]⟩
 | k :: ks,hF,i,l,hl=>by
  obtain ⟨r,e⟩:=hF k (.head _) l hl
  rw [zbJ4]
  cases hp:zX0 k l with
  | none =>
   rw [hp] at e
   refine ⟨r,?_⟩
   simp only [walk,e,Option.bind_some,Option.bind_none,Bool.not_false,if_true]
  | some l' =>
   rw [hp] at e
   have hl':l'.length≤8:=by
    unfold zX0 at hp
    split at hp
    ·exact zaX7 hl hp
    ·cases hp
   obtain ⟨r2,e2⟩:=zba5 F ks (fun x hx=>hF x (.tail _ hx)) (i+1) l' hl'
   refine ⟨r2,?_⟩
   simp only [walk,e,Option.bind_some,Bool.not_true,Bool.false_eq_true,if_false,e2]
theorem zcv4 {e:Expr} {l l':List Atom} (hl:l.length≤8) (hp:zX0 e l=some l'):l'.length≤8:=by
 unfold zX0 at hp
 split at hp
 ·exact zaX7 hl hp
 ·cases hp
theorem zbE9:∀ (n:Nat) (e:Expr),_root_.SizeOf.sizeOf e < n→zg2 e≤24→∀ l,l.length≤8→∃ r,zn1 n e l=some (match zX0 e l with|some l'=>(true,l')|none=>(false,r))
 | 0,_,h,_,_,_=>by omega
 | n+1,e,h,hn,l,hl=>by
  show ∃ r,zH6 (zn1 n) e l=_
  unfold zH6
  have p4:=zz8 e.kids
  have hne:=zJ3 e
  by_cases c:e.kids.length=0
  ·rw [if_pos (by simpa using c),zbA1]
   have hp:zX0 e l=if e.k=0∧zN6 e.atom.name=true∧zah8 e.atom.amount=true then zbm9 e.atom l else none:=by
    unfold zX0
    rw [zbA0,zar5,if_pos c,if_pos c]
    simp only [zae6,Bool.and_eq_true,decide_eq_true_eq,and_assoc]
    split
    ·cases zbm9 e.atom l <;> rfl
    ·rfl
   rw [hp]
   by_cases c1:e.k=0
   ·simp only [c1,decide_true,if_true,Option.bind_some,Bool.true_and,true_and]
    by_cases c2:zN6 e.atom.name=true∧zah8 e.atom.amount=true
    ·simp only [c2.1,c2.2,Bool.and_self,and_self,if_true,zcA7 e.atom l hl,Option.bind_some,Bool.true_and]
     refine ⟨(zaT2 e.atom l).2,?_⟩
     unfold zbm9
     by_cases c3:(zaT2 e.atom l).1=0
     ·simp only [c3,decide_true,if_true]
     ·simp only [c3,decide_false,if_false]
    ·have:(zN6 e.atom.name&&zah8 e.atom.amount)=false:=by rw [Bool.eq_false_iff]; simpa using c2
     simp only [this,c2,Bool.false_eq_true,if_false,Bool.false_and]
     exact ⟨l,rfl⟩
   ·simp only [c1,decide_false,Bool.false_eq_true,if_false,Option.bind_some,Bool.false_and,false_and]
    exact ⟨l,rfl⟩
  ·rw [if_neg (by simpa using c)]
   have hp:zX0 e l=if 1≤e.k∧e.k≤(e.kids.length:Int)∧e.atom=Atom.zero then zba4 e.kids l else none:=by
    unfold zX0 zba4
    rw [zbA0,zar5,if_neg c,if_neg c]
    by_cases q1:1≤e.k <;> by_cases q2:e.k≤(e.kids.length:Int) <;> by_cases q3:e.atom=Atom.zero <;> simp [q1,q2,q3]
   rw [hp]
   by_cases c1:1≤e.k∧e.k≤(e.kids.length:Int)∧e.atom=Atom.zero
   ·rw [if_pos c1,if_neg (by simp [c1.2.2]; omega)]
    have hF:∀ k ∈ e.kids,∀ l,l.length≤8→∃ r,zn1 n k l=some (match zX0 k l with|some l'=>(true,l')|none=>(false,r)):=by
     intro k hk l hl
     refine zbE9 n k (zac6 h hk) ?_ l hl
     have:∀ (ks:List Expr),k ∈ ks→zg2 k≤zp4 ks:=by
      intro ks
      induction ks with
      | nil=>intro h; cases h
      | cons x ks ih =>
       intro h
       rw [zY8]
       have p1:=zQ6 x
       have p2:=zz8 ks
       rcases List.mem_cons.1 h with rfl|h
       ·omega
       ·have:=ih h; omega
     have:=this e.kids hk
     omega
    have key:=zv5 (body:=zE4 (zn1 n) e) e.kids Expr.zero (fun i (s:List Atom)=>((i:Int),s))
     (fun _ k (s:List Atom)=>(zn1 n k s).bind fun v=>if (!v.1)=true then some (.inr (Sum.inr (false,v.2))) else some (.inl v.2)) (fun s=>Sum.inl (β:=Bool×List Atom) s)
     (fun i s=>s.length≤8) (fun i s hi hs=>by
      obtain ⟨r,er⟩:=hF _ (zY7 (z:=Expr.zero) hi) s hs
      refine ⟨?_,fun s' hs'=>?_⟩
      ·unfold zE4
       simp only
       rw [if_pos (by simpa using hi),gdp (by omega)]
       simp only [Int.toNat_natCast,er,Option.bind_some,ze6 i (show i < 4611686018427387904 by omega)]
       cases zX0 (e.kids.getD i Expr.zero) s <;> rfl
      ·rw [er,Option.bind_some] at hs'
       cases hq:zX0 (e.kids.getD i Expr.zero) s with
       | none=>rw [hq] at hs'; simp at hs'
       | some l' =>
        rw [hq] at hs'
        simp only [Bool.not_true,Bool.false_eq_true,if_false,Option.some.injEq,Sum.inl.injEq] at hs'
        subst hs'
        exact zcv4 hs hq)
     (fun s hs=>by unfold zE4; simp) l hl
    rw [show ((0,l):Int×List Atom)=(fun (i:Nat) (s:List Atom)=>((i:Int),s)) 0 l from rfl,key]
    obtain ⟨r,er⟩:=zba5 (zn1 n) e.kids hF 0 l hl
    rw [er,Option.bind_some]
    refine ⟨r,?_⟩
    cases zba4 e.kids l <;> rfl
   ·rw [if_neg c1,if_pos (by
     simp only [Bool.or_eq_true,decide_eq_true_eq,Bool.not_eq_true',decide_eq_false_iff_not]
     by_cases q:e.atom=Atom.zero
     ·left; have:=mt (fun h:1≤e.k∧e.k≤(e.kids.length:Int)=>(⟨h.1,h.2,q⟩:1≤e.k∧e.k≤(e.kids.length:Int)∧e.atom=Atom.zero)) c1; omega
     ·exact .inr q)]
    exact ⟨l,rfl⟩
theorem zaH6 (e:Expr):zi0 e=some (fitE e&&(zX0 e []).isSome):=by
 unfold zi0
 rw [zcv1,Option.bind_some]
 have p:=zU5 e
 cases hf:fitE e with
 | false=>rfl
 | true =>
  simp only [if_true,show ¬ zh6 e=0 by omega,decide_false,Bool.not_false,Bool.true_and]
  unfold zo8
  have hn:zg2 e≤24:=by unfold fitE at hf; simp at hf; omega
  obtain ⟨r,er⟩:=zbE9 _ e (Nat.lt_succ_self _) hn [] (by simp)
  rw [er,Option.bind_some]
  cases zX0 e [] <;> rfl
end Ab
end Go.Proofs.YtebopmkhhppfaaaGreatDoor
namespace Go.Proofs.YtebopmkhhppfaaaGreatDoor
namespace Ab
set_option linter.unusedVariables false
set_option linter.unusedSimpArgs false
def addA (a:Atom) (l:List Atom):List Atom:=if a ∈ l then l else l++[a]
def addS:List Atom→List Atom→List Atom
 | [],l=>l
 | a :: az,l=>addS az (addA a l)
theorem zbF0:∀ (x y l:List Atom),addS (x++y) l=addS y (addS x l)
 | [],_,_=>rfl
 | a :: x,y,l=>zbF0 x y (addA a l)
theorem zcv5 (a:Atom) (l:List Atom):∃ t,addA a l=l++t:=by
 unfold addA
 split
 ·exact ⟨[],by simp⟩
 ·exact ⟨[a],rfl⟩
theorem zbn1:∀ (x l:List Atom),∃ t,addS x l=l++t
 | [],l=>⟨[],by simp [addS]⟩
 | a :: x,l=>by
  obtain ⟨t1,h1⟩:=zcv5 a l
  obtain ⟨t2,h2⟩:=zbn1 x (addA a l)
  exact ⟨t1++t2,by rw [addS,h2,h1,List.append_assoc]⟩
theorem zbA2:∀ (x l:List Atom),(addS x l).length≤l.length+x.length
 | [],l=>by simp [addS]
 | a :: x,l=>by
  have h1:=zbA2 x (addA a l)
  have h2:(addA a l).length≤l.length+1:=by unfold addA; split <;> simp
  simp only [addS,List.length_cons]; omega
def dnN (l:List Atom):Prop:=l.Pairwise fun x y=>(x.name.toList == y.name.toList)=false
theorem zbv2 {a:Atom}:∀ {l:List Atom},dnN l→a ∈ l→zar7 a l=some true
 | x :: l,h,hm=>by
  unfold dnN at h
  rw [List.pairwise_cons] at h
  unfold zar7
  by_cases c:a=x
  ·rw [if_pos c]
  ·rw [if_neg c]
   rcases List.mem_cons.1 hm with e|hm
   ·exact absurd e c
   ·have:=h.1 a hm
    rw [if_neg (by rw [beq_iff_eq]; intro e; rw [e] at this; simp at this)]
    exact zbv2 h.2 hm
theorem zaO5 {a:Atom}:∀ {l:List Atom},zar7 a l=none→∀ x ∈ l,(x.name.toList == a.name.toList)=false
 | y :: l,h,x,hx=>by
  unfold zar7 at h
  split at h
  ·cases h
  ·split at h
   ·cases h
   ·rename_i h1 h2
    rcases List.mem_cons.1 hx with rfl|hx
    ·rw [Bool.eq_false_iff]
     intro e
     rw [beq_iff_eq] at e
     exact h2 (by rw [beq_iff_eq]; exact e.symm)
    ·exact zaO5 h x hx
theorem zba6 {a:Atom}:∀ {l:List Atom},dnN l→zar7 a l=some false→a ∉ l∧∃ x ∈ l,(x.name.toList == a.name.toList)=true
 | y :: l,hd,h=>by
  refine ⟨fun hm=>?_,?_⟩
  ·rw [zbv2 hd hm] at h; cases h
  ·unfold zar7 at h
   split at h
   ·cases h
   ·split at h
    ·rename_i h2
     exact ⟨y,.head _,by rw [beq_iff_eq] at h2 ⊢; exact h2.symm⟩
    ·unfold dnN at hd
     rw [List.pairwise_cons] at hd
     obtain ⟨_,x,hx,e⟩:=zba6 hd.2 h
     exact ⟨x,.tail _ hx,e⟩
theorem zbJ5 {a:Atom} {l:List Atom} (h:zar7 a l=none):a ∉ l:=fun hm=>by
 have:=zaO5 h a hm
 simp at this
theorem zcA8 {l t:List Atom} (h:dnN (l++t)):dnN l:=(List.pairwise_append.1 h).1
theorem zaO6:∀ (x l:List Atom),l.length≤8→dnN l→((zae6 x l).isSome=true ↔ (addS x l).length≤8∧dnN (addS x l))
 | [],l,h8,hd=>by simp [zae6,addS,h8,hd]
 | a :: x,l,h8,hd=>by
  simp only [zae6,addS]
  unfold zbm9 zaT2
  cases hn:zar7 a l with
  | some b =>
   cases b with
   | true =>
    have hm:a ∈ l:=by
     refine Classical.byContradiction fun hm=>?_
     have:∀ l:List Atom,a ∉ l→zar7 a l≠some true:=by
      intro l
      induction l with
      | nil=>intro _ h; cases h
      | cons y l ih =>
       intro hm h
       unfold zar7 at h
       rw [if_neg (fun (e:a=y)=>hm (by rw [e]; exact .head _))] at h
       split at h
       ·cases h
       ·exact ih (fun h=>hm (.tail _ h)) h
     exact this l hm hn
    simp only [if_true,Option.bind_some]
    unfold addA
    rw [if_pos hm]
    exact zaO6 x l h8 hd
   | false =>
    obtain ⟨hm,y,hy,e⟩:=zba6 hd hn
    simp only [show ¬ (13:Int)=0 by decide,if_false,Option.bind_none,Option.isSome_none,Bool.false_eq_true,false_iff]
    rintro ⟨_,h2⟩
    unfold addA at h2
    rw [if_neg hm] at h2
    obtain ⟨t,ht⟩:=zbn1 x (l++[a])
    rw [ht] at h2
    have h3:=(List.pairwise_append.1 (zcA8 h2)).2.2 y hy a (List.mem_singleton.2 rfl)
    rw [e] at h3; cases h3
  | none =>
   have hm:=zbJ5 hn
   have ha:addA a l=l++[a]:=by unfold addA; rw [if_neg hm]
   rw [ha]
   by_cases c:l.length=8
   ·simp only [c,if_true,show ¬ (4:Int)=0 by decide,if_false,Option.bind_none,Option.isSome_none,Bool.false_eq_true,false_iff]
    rintro ⟨h1,_⟩
    obtain ⟨t,ht⟩:=zbn1 x (l++[a])
    rw [ht] at h1
    simp at h1
    omega
   ·simp only [c,if_false,if_true,Option.bind_some]
    refine zaO6 x (l++[a]) (by simp; omega) ?_
    unfold dnN
    rw [List.pairwise_append]
    exact ⟨hd,List.pairwise_singleton _ _,fun y hy z hz=>by rw [List.mem_singleton.1 hz]; exact zaO5 hn y hy⟩
def addO (e:Expr) (l:List Atom):Option (List Atom):=if okE e=true then some (addS (zak4 e) l) else none
def addL (ks:List Expr) (l:List Atom):Option (List Atom):=if okL ks=true then some (addS (zad3 ks) l) else none
theorem zbR9 (k:Expr) (ks:List Expr) (l:List Atom):addL (k :: ks) l=(addO k l).bind (addL ks):=by
 unfold addL addO
 simp only [okL,zad3,zbF0]
 cases okE k <;> simp
def bad1 (r:Nat⊕(Bool×List Atom)):Prop:=match r with|.inl _=>True|.inr v=>v.1=false
def got1 (F:Option (Nat⊕(Bool×List Atom))) (o:Option (List Atom)):Prop:=match o with|some l=>F=some (.inr (true,l))|none=>∃ r,F=some r∧bad1 r
theorem zbS0 (a:Atom) (l:List Atom) {X:Type} (x:X) {body:Int→Option (Int⊕(Unit⊕X))} (hl:l.length < 4611686018427387904)
  (hb:∀ i:Nat,i < l.length→body (i:Int)=if l.getD i Atom.zero=a then some (.inr (.inr x)) else some (.inl ((i+1:Nat):Int))) (he:body (l.length:Int)=some (.inr (.inl ()))) :
  zb4 body 0=some (if a ∈ l then .inr x else .inl ()):=by
 have hw:∀ (t:List Atom) (i:Nat),walk (fun _ y (_:Unit)=>if y=a then some (.inr (Sum.inr x)) else some (.inl ())) (fun _=>Sum.inl (β:=X) ()) t i ()=some (if a ∈ t then .inr x else .inl ()):=by
  intro t
  induction t with
  | nil=>intro i; simp [walk]
  | cons y t ih =>
   intro i
   simp only [walk]
   by_cases c:y=a
   ·rw [if_pos c]; simp [c]
   ·rw [if_neg c]
    simp only [ih (i+1),List.mem_cons,show ¬ a=y from fun e=>c e.symm,false_or]
 have key:=zai5 (body:=body) l Atom.zero (fun i (_:Unit)=>(i:Int)) (fun _ y (_:Unit)=>if y=a then some (.inr (Sum.inr x)) else some (.inl ())) (fun _=>Sum.inl (β:=X) ())
  (fun i s hi=>by rw [hb i hi]; split <;> rfl) (fun s=>he) ()
 rw [show (0:Int)=(fun (i:Nat) (_:Unit)=>(i:Int)) 0 () from rfl,key,hw]
theorem zbn2 (F:Expr→List Atom→Option (Nat⊕(Bool×List Atom))) {Y:Type} {B:Nat}:∀ (ks:List Expr),(∀ k ∈ ks,∀ l,(l.length:Int)+zg2 k≤B→got1 (F k l) (addO k l)) →
  ∀ (i:Nat) (l:List Atom),(l.length:Int)+zp4 ks≤B→(match addL ks l with
   | some l'=>walk (fun _ k (s:List Atom)=>(F k s).bind fun v=>match v with|.inl v=>some (.inr (Sum.inr (Sum.inl s.length)))|.inr v=>if (!v.1)=true then some (.inr (Sum.inr (.inl s.length))) else some (.inl v.2)) (fun s=>Sum.inl (β:=Nat⊕Y) s) ks i l=some (.inl l')
   | none=>∃ r,walk (fun _ k (s:List Atom)=>(F k s).bind fun v=>match v with|.inl v=>some (.inr (Sum.inr (Sum.inl s.length)))|.inr v=>if (!v.1)=true then some (.inr (Sum.inr (.inl s.length))) else some (.inl v.2)) (fun s=>Sum.inl (β:=Nat⊕Y) s) ks i l=some (.inr (.inl r)))
 | [],_,i,l,hl=>by simp [walk,addL,okL,zad3,addS]
 | k :: ks,hF,i,l,hl=>by
  rw [zY8] at hl
  have p1:=zz8 ks
  have e:=hF k (.head _) l (by omega)
  rw [zbR9]
  cases hp:addO k l with
  | none =>
   rw [hp] at e
   obtain ⟨r,er,hb⟩:=e
   simp only [Option.bind_none]
   refine ⟨l.length,?_⟩
   simp only [walk,er,Option.bind_some]
   cases r with
   | inl r=>rfl
   | inr v =>
    have hv:v.1=false:=hb
    simp only [hv,Bool.not_false,if_true]
  | some l' =>
   rw [hp] at e
   have e':F k l=some (.inr (true,l')):=e
   have hl':(l'.length:Int)≤l.length+zg2 k:=by
    unfold addO at hp
    split at hp
    ·cases hp
     have h1:=zbA2 (zak4 k) l
     have h2:=zbm7 k
     omega
    ·cases hp
   have e2:=zbn2 (Y:=Y) F ks (fun x hx=>hF x (.tail _ hx)) (i+1) l' (by omega)
   simp only [walk,e',Option.bind_some,Bool.not_true,Bool.false_eq_true,if_false]
   exact e2
theorem zay2 {e k:Expr} (hk:k ∈ e.kids):zg2 k+1≤zg2 e:=by
 have:∀ (ks:List Expr),k ∈ ks→zg2 k≤zp4 ks:=by
  intro ks
  induction ks with
  | nil=>intro h; cases h
  | cons x ks ih =>
   intro h
   rw [zY8]
   have p1:=zQ6 x
   have p2:=zz8 ks
   rcases List.mem_cons.1 h with rfl|h
   ·omega
   ·have:=ih h; omega
 have:=this e.kids hk
 rw [zJ3 e]; omega
theorem zaT3 {e:Expr} (c:e.kids.length=0):okE e=true ↔ e.k=0∧zN6 e.atom.name=true∧zah8 e.atom.amount=true:=by
 rw [zbA0,if_pos c]; simp [and_assoc]
theorem zaT4 {e:Expr} (c:¬ e.kids.length=0):okE e=true ↔ (1≤e.k∧e.k≤(e.kids.length:Int)∧e.atom=Atom.zero)∧okL e.kids=true:=by
 rw [zbA0,if_neg c]; simp [and_assoc]
theorem zaX8 {e:Expr} (c:e.kids.length=0) (l:List Atom):addO e l=if e.k=0∧zN6 e.atom.name=true∧zah8 e.atom.amount=true then some (addA e.atom l) else none:=by
 unfold addO
 rw [zar5,if_pos c]
 simp only [zaT3 c]
 rfl
theorem zbv3 {e:Expr} (c:¬ e.kids.length=0) (l:List Atom):addO e l=if 1≤e.k∧e.k≤(e.kids.length:Int)∧e.atom=Atom.zero then addL e.kids l else none:=by
 unfold addO addL
 rw [zar5,if_neg c]
 simp only [zaT4 c]
 by_cases c1:1≤e.k∧e.k≤(e.kids.length:Int)∧e.atom=Atom.zero <;> simp only [c1,true_and,false_and,if_true,if_false,and_self]
theorem zcv6:∀ (n:Nat) (e:Expr),_root_.SizeOf.sizeOf e < n→∀ l,(l.length:Int)+zg2 e≤100→got1 (zo3 n e l) (addO e l)
 | 0,_,h,_,_=>by omega
 | n+1,e,h,l,hl=>by
  show got1 (zG0 (zo3 n) e l) _
  unfold zG0
  have p4:=zz8 e.kids
  have hne:=zJ3 e
  by_cases c:e.kids.length=0
  ·rw [if_pos (by simpa using c),zaX8 c]
   by_cases c1:e.k=0
   ·simp only [c1,decide_true,if_true,zav2,Option.bind_some,Bool.not_true,Bool.false_or,true_and]
    by_cases c2:zN6 e.atom.name=true∧zah8 e.atom.amount=true
    ·rw [if_pos c2,if_neg (by have:=c2.2; unfold zah8 at this; simp [c2.1,this])]
     rw [zbS0 e.atom l (x:=Sum.inr (true,l)) (by omega) (fun i hi=>by
      unfold zO9
      rw [if_pos (by simpa using hi),gdp (by omega),ze6 i (by omega)]
      simp only [Int.toNat_natCast,decide_eq_true_eq]) (by unfold zO9; simp),Option.bind_some]
     unfold addA got1
     by_cases c3:e.atom ∈ l
     ·simp only [c3,if_true]
     ·simp only [c3,if_false]
      unfold zI7
      rw [gdp (by omega)]
    ·rw [if_neg c2,if_pos (by
      have:¬ (zN6 e.atom.name=true∧zq6 e.atom.amount=true):=c2
      simp only [Bool.or_eq_true,Bool.not_eq_true']
      cases h1:zN6 e.atom.name <;> cases h2:zq6 e.atom.amount <;> simp_all)]
     exact ⟨_,rfl,rfl⟩
   ·simp only [c1,decide_false,Bool.false_eq_true,if_false,Option.bind_some,Bool.not_false,Bool.true_or,if_true,false_and]
    exact ⟨_,rfl,rfl⟩
  ·rw [if_neg (by simpa using c),zbv3 c]
   by_cases c1:1≤e.k∧e.k≤(e.kids.length:Int)∧e.atom=Atom.zero
   ·rw [if_pos c1,if_neg (by simp [c1.2.2]; omega)]
    have hF:∀ k ∈ e.kids,∀ l,(l.length:Int)+zg2 k≤(100:Nat)→got1 (zo3 n k l) (addO k l):=fun k hk l hl=>zcv6 n k (zac6 h hk) l hl
    have key:=zv5 (body:=zI8 (zo3 n) e) e.kids Expr.zero (fun i (s:List Atom)=>((i:Int),s))
     (fun _ k (s:List Atom)=>(zo3 n k s).bind fun v=>match v with|.inl v=>some (.inr (Sum.inr (Sum.inl s.length)))|.inr v=>if (!v.1)=true then some (.inr (Sum.inr (.inl s.length))) else some (.inl v.2)) (fun s=>Sum.inl (β:=Nat⊕(Bool×List Atom)) s)
     (fun i s=>True) (fun i s hi hs=>by
      refine ⟨?_,fun s' hs'=>trivial⟩
      unfold zI8
      simp only
      rw [if_pos (by simpa using hi),gdp (by omega)]
      simp only [Int.toNat_natCast,ze6 i (show i < 4611686018427387904 by omega)]
      cases zo3 n (e.kids.getD i Expr.zero) s with
      | none=>rfl
      | some v =>
       cases v with
       | inl v=>rfl
       | inr v =>
        simp only [Option.bind_some]
        split <;> rfl)
     (fun s hs=>by unfold zI8; simp) l trivial
    rw [show ((0,l):Int×List Atom)=(fun (i:Nat) (s:List Atom)=>((i:Int),s)) 0 l from rfl,key]
    have er:=zbn2 (zo3 n) (Y:=Bool×List Atom) (B:=100) e.kids hF 0 l (by omega)
    cases ha:addL e.kids l with
    | none =>
     rw [ha] at er
     obtain ⟨r,er⟩:=er
     rw [er,Option.bind_some]
     exact ⟨_,rfl,trivial⟩
    | some l' =>
     rw [ha] at er
     simp only at er
     rw [er,Option.bind_some]
     rfl
   ·rw [if_neg c1,if_pos (by
     simp only [Bool.or_eq_true,decide_eq_true_eq,Bool.not_eq_true',decide_eq_false_iff_not]
     by_cases q:e.atom=Atom.zero
     ·left; have:=mt (fun h:1≤e.k∧e.k≤(e.kids.length:Int)=>(⟨h.1,h.2,q⟩:1≤e.k∧e.k≤(e.kids.length:Int)∧e.atom=Atom.zero)) c1; omega
     ·exact .inr q)]
    exact ⟨_,rfl,rfl⟩
def bad0 (r:Nat⊕(List Atom×Bool)):Prop:=match r with|.inl _=>True|.inr v=>v.2=false
theorem zcA9 (e:Expr) (hl:zg2 e≤50):match addO e [] with|some l=>zy2 e=some (.inr (l,true))|none=>∃ r,zy2 e=some r∧bad0 r:=by
 unfold zy2
 show match addO e [] with|some l=>zD4 _ e=some (.inr (l,true))|none=>∃ r,zD4 _ e=some r∧bad0 r
 unfold zD4
 have p4:=zz8 e.kids
 have hne:=zJ3 e
 by_cases c:e.kids.length=0
 ·rw [if_pos (by simpa using c),zaX8 c]
  by_cases c1:e.k=0
  ·simp only [c1,decide_true,if_true,zav2,Option.bind_some,Bool.not_true,Bool.false_or,true_and]
   by_cases c2:zN6 e.atom.name=true∧zah8 e.atom.amount=true
   ·rw [if_pos c2,if_neg (by have:=c2.2; unfold zah8 at this; simp [c2.1,this])]
    rw [zd2]
    unfold zZ8
    rfl
   ·rw [if_neg c2,if_pos (by
     have:¬ (zN6 e.atom.name=true∧zq6 e.atom.amount=true):=c2
     simp only [Bool.or_eq_true,Bool.not_eq_true']
     cases h1:zN6 e.atom.name <;> cases h2:zq6 e.atom.amount <;> simp_all)]
    exact ⟨_,rfl,rfl⟩
  ·simp only [c1,decide_false,Bool.false_eq_true,if_false,Option.bind_some,Bool.not_false,Bool.true_or,if_true,false_and]
   exact ⟨_,rfl,rfl⟩
 ·rw [if_neg (by simpa using c),zbv3 c]
  by_cases c1:1≤e.k∧e.k≤(e.kids.length:Int)∧e.atom=Atom.zero
  ·rw [if_pos c1,if_neg (by simp [c1.2.2]; omega)]
   have hF:∀ k ∈ e.kids,∀ l,(l.length:Int)+zg2 k≤(100:Nat)→got1 (zr8 k l) (addO k l):=fun k hk l hl=>zcv6 _ k (Nat.lt_succ_self _) l hl
   have key:=zv5 (body:=zL7 e) e.kids Expr.zero (fun i (s:List Atom)=>((i:Int),s))
    (fun _ k (s:List Atom)=>(zr8 k s).bind fun v=>match v with|.inl v=>some (.inr (Sum.inr (Sum.inl s.length)))|.inr v=>if (!v.1)=true then some (.inr (Sum.inr (.inl s.length))) else some (.inl v.2)) (fun s=>Sum.inl (β:=Nat⊕(List Atom×Bool)) s)
    (fun i s=>True) (fun i s hi hs=>by
     refine ⟨?_,fun s' hs'=>trivial⟩
     unfold zL7
     simp only
     rw [if_pos (by simpa using hi),gdp (by omega)]
     simp only [Int.toNat_natCast,ze6 i (show i < 4611686018427387904 by omega)]
     cases zr8 (e.kids.getD i Expr.zero) s with
     | none=>rfl
     | some v =>
      cases v with
      | inl v=>rfl
      | inr v =>
       simp only [Option.bind_some]
       split <;> rfl)
    (fun s hs=>by unfold zL7; simp) [] trivial
   rw [show ((0,[]):Int×List Atom)=(fun (i:Nat) (s:List Atom)=>((i:Int),s)) 0 [] from rfl,key]
   have er:=zbn2 (zr8) (Y:=List Atom×Bool) (B:=100) e.kids hF 0 [] (by simp; omega)
   cases ha:addL e.kids [] with
   | none =>
    rw [ha] at er
    obtain ⟨r,er⟩:=er
    simp only
    rw [er,Option.bind_some]
    exact ⟨_,rfl,trivial⟩
   | some l' =>
    rw [ha] at er
    simp only at er ⊢
    rw [er,Option.bind_some]
    rfl
  ·rw [if_neg c1,if_pos (by
    simp only [Bool.or_eq_true,decide_eq_true_eq,Bool.not_eq_true',decide_eq_false_iff_not]
    by_cases q:e.atom=Atom.zero
    ·left; have:=mt (fun h:1≤e.k∧e.k≤(e.kids.length:Int)=>(⟨h.1,h.2,q⟩:1≤e.k∧e.k≤(e.kids.length:Int)∧e.atom=Atom.zero)) c1; omega
    ·exact .inr q)]
   exact ⟨_,rfl,rfl⟩
end Ab
end Go.Proofs.YtebopmkhhppfaaaGreatDoor
namespace Go.Proofs.YtebopmkhhppfaaaGreatDoor
namespace Ab
set_option linter.unusedVariables false
set_option linter.unusedSimpArgs false
def vE (e:Expr):Bool:=fitE e&&(zX0 e []).isSome
theorem zbv4 (e:Expr):(zX0 e []).isSome=true ↔ ∃ l,addO e []=some l∧l.length≤8∧dnN l:=by
 unfold zX0 addO
 by_cases c:okE e=true
 ·rw [if_pos c,if_pos c,zaO6 _ [] (by simp) .nil]
  constructor
  ·exact fun h=>⟨_,rfl,h⟩
  ·rintro ⟨l,e,h⟩
   cases e; exact h
 ·rw [if_neg c,if_neg c]
  simp
theorem zbF1 (v:List Atom×Bool) (i:Nat) (hi:i < v.1.length) (hl:v.1.length≤1000) :
  zb4 (zL8 v (i:Int)) 0=some (if (v.1.take i).any (fun x=>(v.1.getD i Atom.zero).name.toList == x.name.toList)=true then .inr ([],false) else .inl ()):=by
 have hw:∀ (t:List Atom) (j:Nat),walk (fun _ x (_:Unit)=>if ((v.1.getD i Atom.zero).name.toList == x.name.toList)=true then some (.inr (Sum.inr (([]:List Atom),false))) else some (.inl ())) (fun _=>Sum.inl (β:=List Atom×Bool) ()) t j () =
   some (if t.any (fun x=>(v.1.getD i Atom.zero).name.toList == x.name.toList)=true then .inr ([],false) else .inl ()):=by
  intro t
  induction t with
  | nil=>intro j; rfl
  | cons x t ih =>
   intro j
   simp only [walk,List.any_cons]
   by_cases c:((v.1.getD i Atom.zero).name.toList == x.name.toList)=true
   ·simp only [c,if_true,Bool.true_or]
   ·simp only [Bool.not_eq_true] at c
    simp only [c,Bool.false_or,Bool.false_eq_true,if_false]
    exact ih (j+1)
 have hlen:(v.1.take i).length=i:=by rw [List.length_take]; omega
 have key:=zai5 (body:=zL8 v (i:Int)) (v.1.take i) Atom.zero (fun j (_:Unit)=>(j:Int))
  (fun _ x (_:Unit)=>if ((v.1.getD i Atom.zero).name.toList == x.name.toList)=true then some (.inr (Sum.inr (([]:List Atom),false))) else some (.inl ())) (fun _=>Sum.inl (β:=List Atom×Bool) ())
  (fun j s hj=>by
   rw [hlen] at hj
   unfold zL8
   rw [if_pos (by simp; omega),gdp (by omega),gdp (by omega),ze6 j (by omega),zbQ9 _ _ _ _ hj]
   simp only [Int.toNat_natCast]
   split <;> rfl)
  (fun s=>by unfold zL8; rw [hlen]; simp) ()
 rw [show (0:Int)=(fun (j:Nat) (_:Unit)=>(j:Int)) 0 () from rfl,key,hw]
theorem zbF2 (v:List Atom×Bool) (hl:v.1.length≤1000):(dnN v.1→zb4 (zG1 v) 0=some (.inl ()))∧(¬ dnN v.1→zb4 (zG1 v) 0=some (.inr ([],false))):=by
 have key:=zai5 (body:=zG1 v) v.1 Atom.zero (fun i (_:Unit)=>(i:Int))
  (fun i a (_:Unit)=>if (v.1.take i).any (fun x=>a.name.toList == x.name.toList)=true then some (.inr (Sum.inr (([]:List Atom),false))) else some (.inl ())) (fun _=>Sum.inl (β:=List Atom×Bool) ())
  (fun i s hi=>by
   unfold zG1
   rw [if_pos (by simpa using hi),zbF1 v i hi hl]
   split
   ·rfl
   ·show some _=_
    rw [ze6 i (by omega)]; rfl)
  (fun s=>by unfold zG1; simp) ()
 have hw:∀ (t prev:List Atom),v.1=prev++t→dnN prev→(dnN v.1→walk (fun i a (_:Unit)=>if (v.1.take i).any (fun x=>a.name.toList == x.name.toList)=true then some (.inr (Sum.inr (([]:List Atom),false))) else some (.inl ())) (fun _=>Sum.inl (β:=List Atom×Bool) ()) t prev.length ()=some (.inl ())) ∧
   (¬ dnN v.1→walk (fun i a (_:Unit)=>if (v.1.take i).any (fun x=>a.name.toList == x.name.toList)=true then some (.inr (Sum.inr (([]:List Atom),false))) else some (.inl ())) (fun _=>Sum.inl (β:=List Atom×Bool) ()) t prev.length ()=some (.inr ([],false))):=by
  intro t
  induction t with
  | nil=>intro prev h hd; exact ⟨fun _=>rfl,fun hn=>absurd (by rw [h,List.append_nil]; exact hd) hn⟩
  | cons a t ih =>
   intro prev h hd
   have ht:v.1.take prev.length=prev:=by rw [h,List.take_left']; rfl
   simp only [walk,ht]
   by_cases c:prev.any (fun x=>a.name.toList == x.name.toList)=true
   ·have hn:¬ dnN v.1:=by
     intro hd2
     rw [h] at hd2
     obtain ⟨x,hx,e⟩:=List.any_eq_true.1 c
     have:=(List.pairwise_append.1 hd2).2.2 x hx a (.head _)
     rw [beq_iff_eq] at e
     rw [← e] at this
     simp at this
    exact ⟨fun h=>absurd h hn,fun _=>by rw [if_pos c]⟩
   ·rw [if_neg c]
    have hd3:dnN (prev++[a]):=by
     unfold dnN
     rw [List.pairwise_append]
     refine ⟨hd,List.pairwise_singleton _ _,fun x hx y hy=>?_⟩
     rw [List.mem_singleton.1 hy,Bool.eq_false_iff]
     intro e
     rw [beq_iff_eq] at e
     exact c (List.any_eq_true.2 ⟨x,hx,by rw [beq_iff_eq]; exact e.symm⟩)
    have:=ih (prev++[a]) (by rw [h]; simp) hd3
    rw [show (prev++[a]).length=prev.length+1 by simp] at this
    exact this
 have:=hw v.1 [] rfl .nil
 rw [show (0:Int)=(fun (i:Nat) (_:Unit)=>(i:Int)) 0 () from rfl,key]
 exact this
theorem zar8 (e:Expr):zq9 e=some (vE e):=by
 unfold zq9 zG9
 rw [zcv2,Option.bind_some]
 have p:=zQ6 e
 unfold vE
 cases hf:fitE e with
 | false=>rfl
 | true =>
  have hn:zg2 e≤24:=by unfold fitE at hf; simp at hf; omega
  simp only [if_true,show ¬ zg2 e=0 by omega,decide_false,Bool.false_eq_true,if_false,Bool.true_and]
  have ha:=zcA9 e (by omega)
  have hp:=zbv4 e
  cases hadd:addO e [] with
  | none =>
   rw [hadd] at ha hp
   obtain ⟨r,er,hb⟩:=ha
   have hf:(zX0 e []).isSome=false:=by
    rw [Bool.eq_false_iff]; intro h
    obtain ⟨l,e,_⟩:=hp.1 h
    cases e
   rw [er,hf,Option.bind_some]
   cases r with
   | inl r=>rfl
   | inr v =>
    have hv:v.2=false:=hb
    simp only [hv,Bool.not_false,Bool.true_or,if_true,Option.bind_some]
  | some l =>
   rw [hadd] at ha hp
   simp only at ha
   have hl:l.length≤24:=by
    unfold addO at hadd
    split at hadd
    ·cases hadd
     have h1:=zbA2 (zak4 e) []
     have h2:=zbm7 e
     simp at h1
     omega
    ·cases hadd
   rw [ha,Option.bind_some]
   by_cases c:l.length≤8
   ·simp only [Bool.not_true,Bool.false_or,show ¬ (8:Int) < (l.length:Int) by omega,decide_false,Bool.false_eq_true,if_false]
    have ho:=zbF2 (l,true) (by simp only; omega)
    by_cases hd:dnN l
    ·rw [ho.1 hd,hp.2 ⟨l,rfl,c,hd⟩]
     rfl
    ·rw [ho.2 hd]
     have:(zX0 e []).isSome=false:=by
      rw [Bool.eq_false_iff]; intro h
      obtain ⟨l',e',_,h3⟩:=hp.1 h
      cases e'
      exact hd h3
     rw [this]
     rfl
   ·simp only [Bool.not_true,Bool.false_or,show (8:Int) < (l.length:Int) by omega,decide_true,if_true,Option.bind_some]
    have:(zX0 e []).isSome=false:=by
     rw [Bool.eq_false_iff]; intro h
     obtain ⟨l',e',h3,_⟩:=hp.1 h
     cases e'
     exact c h3
    rw [this]
theorem zbn3 (e:Expr):zi0 e=some (vE e):=zaH6 e
theorem zaX9 {t:List Queue} (hl:t.length≤8) (h:∀ q ∈ t,zp3 q=true):zz4 t=some (zar4 t):=by
 rw [← zbm5 hl h]; rfl
theorem zbF3 (s:WaitState):zO5 s=zA4 s:=by
 funext g
 unfold zO5 zA4
 by_cases c:g < (s.needs.length:Int)
 ·by_cases c0:0≤g
  ·simp only [c,c0,and_self,decide_true,if_true,zx3,zbn3,zar8,zab2,zax9]
   generalize hn:s.needs.getD g.toNat Need.zero=n
   generalize hm:s.needs.getD ((IntKind.i64.wrap (g - 1)).toNat) Need.zero=m
   cases hP:za9 n.proc
   ·simp
   ·cases hE:vE n.expr
    ·by_cases q1:n.gen < 0 <;> by_cases q2:1073741824 < n.gen <;> simp [q1,q2]
    ·by_cases q1:n.gen < 0
     ·simp [q1]
     ·by_cases q2:1073741824 < n.gen
      ·simp [q1,q2]
      ·by_cases q3:0 < g <;> simp [q1,q2,q3]
  ·simp only [c,c0,false_and,decide_true,if_true,zbX4]
 ·simp only [c,decide_false,Bool.false_eq_true,if_false]
end Ab
end Go.Proofs.YtebopmkhhppfaaaGreatDoor
namespace Go.Proofs.YtebopmkhhppfaaaGreatDoor
namespace Ab
set_option linter.unusedVariables false
set_option linter.unusedSimpArgs false
def zba7 (l:List Need) (i:Nat) (n:Need):Bool:=za9 n.proc&&vE n.expr&&decide (0≤n.gen)&&decide (n.gen≤1073741824)&&(decide (i=0)||decide (cmpP (l.getD (i - 1) Need.zero).proc n.proc < 0))
def zaB0 (l:List Need):Bool:=(List.range l.length).all fun i=>zba7 l i (l.getD i Need.zero)
def zbn4 (s:WaitState):List Proc:=zaH3 (zar4 s.queues++s.needs.map (·.proc))
def zab9 (s:WaitState):Bool:=zah7 s.queues&&decide (s.needs.length≤8)&&zaB0 s.needs&&decide ((zbn4 s).length≤8)
theorem zbn5 (s:WaitState) (h8:s.needs.length≤8):zb4 (zA4 s) 0=some (if zaB0 s.needs=true then .inl () else .inr false):=by
 have key:=zz6 (body:=zA4 s) s.needs.length (fun i=>if zba7 s.needs i (s.needs.getD i Need.zero)=true then none else some (Sum.inr (α:=Unit) false)) (Sum.inl ()) (fun i hi=>by
  unfold zA4
  have c1:(i:Int) < (s.needs.length:Int):=by omega
  have c2:0≤(i:Int):=by omega
  simp only [c1,c2,and_self,decide_true,if_true,zx3,zar8,zax9,Int.toNat_natCast]
  unfold zba7
  have nd:∀ x:Need,x=x:=fun x=>rfl
  rcases hb (za9 (s.needs.getD i Need.zero).proc) with hP|hP
  ·rcases hb (vE (s.needs.getD i Need.zero).expr) with hE|hE
   ·by_cases q1:(s.needs.getD i Need.zero).gen < 0
    ·simp [hP,hE,q1,show ¬ 0≤(s.needs.getD i Need.zero).gen by omega,-List.getD_eq_getElem?_getD]
    ·by_cases q2:1073741824 < (s.needs.getD i Need.zero).gen
     ·simp [hP,hE,q1,q2,show ¬ (s.needs.getD i Need.zero).gen≤1073741824 by omega,-List.getD_eq_getElem?_getD]
     ·have q1':0≤(s.needs.getD i Need.zero).gen:=by omega
      have q2':(s.needs.getD i Need.zero).gen≤1073741824:=by omega
      have w2:IntKind.i64.wrap ((i:Int)+1)=(i:Int)+1:=zc4 (by omega) (by omega)
      by_cases q3:i=0
      ·subst q3
       simp only [hP,hE,q1,q2,q1',q2',if_true,Option.bind_some,decide_true,decide_false,Bool.not_true,Bool.not_false,Bool.and_self,Bool.true_and,Bool.or_self,Bool.false_or,Bool.true_or,Int.cast_ofNat_Int,Int.lt_irrefl,Bool.and_false,Bool.false_and,Bool.false_eq_true,false_implies,zx3,if_false]
       rfl
      ·have q4:(0:Int) < (i:Int):=by omega
       have w:IntKind.i64.wrap ((i:Int) - 1)=((i - 1:Nat):Int):=zaw3 i (by omega) (by omega)
       rw [hP,if_pos rfl,Option.bind_some,gdp (by intro _; rw [w]; omega),w,w2]
       simp only [hE,q1,q2,q1',q2',q3,q4,decide_true,decide_false,Bool.not_true,Bool.not_false,Bool.and_self,Bool.true_and,Bool.or_self,Bool.false_or,Int.toNat_natCast,if_true,if_false]
       by_cases q5:cmpP (s.needs.getD (i - 1) Need.zero).proc (s.needs.getD i Need.zero).proc < 0
       ·have q6:¬ 0≤cmpP (s.needs.getD (i - 1) Need.zero).proc (s.needs.getD i Need.zero).proc:=by omega
        simp only [q5,q6,decide_true,decide_false,if_true,Bool.false_eq_true,if_false]
       ·have q6:0≤cmpP (s.needs.getD (i - 1) Need.zero).proc (s.needs.getD i Need.zero).proc:=by omega
        simp only [q5,q6,decide_true,decide_false,if_true,Bool.false_eq_true,if_false]
   ·simp [hP,hE,-List.getD_eq_getElem?_getD]
  ·simp [hP,-List.getD_eq_getElem?_getD])
  (by unfold zA4; simp)
 rw [key,zJ7 (fun i=>zba7 s.needs i (s.needs.getD i Need.zero))]
 unfold zaB0
 rw [List.range_eq_range']
 split <;> rfl
theorem zbn6 (s:WaitState) (hp:zah7 s.queues=true) (h8:s.needs.length≤8):zB9 s=some (zbn4 s):=by
 obtain ⟨h1,h2,_⟩:=(zaO3 _).1 hp
 have hq:=zaT0 s.queues h2
 have hs:(zar4 s.queues).length≤200:=by
  have:=zaJ3 (s.queues.flatMap zae4)
  unfold zar4; omega
 unfold zB9
 rw [zaX9 h1 h2,Option.bind_some,zaH5 s.needs Need.zero (·.proc) _ (by omega) (by omega) (fun i t hi ht=>by
  unfold zaa4
  have h3:0≤(i:Int)∧(i:Int) < (s.needs.length:Int):=by omega
  have h1:t.length+1≤4294967296:=by omega
  simp only [h1,h3.1,h3.2,and_self,zx3,decide_true,if_true,Int.toNat_natCast,ze6 i (show i < 4611686018427387904 by omega)]) (fun t=>by unfold zaa4; simp),Option.bind_some]
 unfold zaa3
 rw [zae5 _ (by simp; omega)]; rfl
theorem zar9 (s:WaitState) (hp:zah7 s.queues=true) (h8:s.needs.length≤8):zj8 s=some (zbn4 s):=by
 obtain ⟨h1,h2,_⟩:=(zaO3 _).1 hp
 have hq:=zaT0 s.queues h2
 have hs:(zar4 s.queues).length≤200:=by
  have:=zaJ3 (s.queues.flatMap zae4)
  unfold zar4; omega
 unfold zj8
 rw [zbm2 h1 h2,Option.bind_some,gdp (by omega),zaH5 s.needs Need.zero (·.proc) _ (by omega) (by omega) (fun i t hi ht=>by
  unfold zO3
  have h3:0≤(i:Int)∧(i:Int) < (s.needs.length:Int):=by omega
  have h1:t.length+1≤4294967296:=by omega
  simp only [h1,h3.1,h3.2,and_self,zx3,decide_true,if_true,Int.toNat_natCast,ze6 i (show i < 4611686018427387904 by omega)]) (fun t=>by unfold zO3; simp),Option.bind_some]
 unfold zO2
 rw [zae3 _ (by simp; omega)]; rfl
theorem zaH7 (s:WaitState):zy4 s=some (zab9 s):=by
 unfold zy4 zab9
 rw [zbm6,Option.bind_some]
 cases hp:zah7 s.queues with
 | false=>rfl
 | true =>
  by_cases h8:s.needs.length≤8
  ·simp only [Bool.not_true,Bool.false_or,show ¬ (8:Int) < (s.needs.length:Int) by omega,decide_false,Bool.false_eq_true,if_false,h8,decide_true,Bool.true_and]
   rw [zbn5 s h8,Option.bind_some]
   cases zaB0 s.needs with
   | false=>rfl
   | true =>
    simp only [if_true,Bool.true_and]
    unfold zaa5
    rw [zbn6 s hp h8,Option.bind_some]
    congr 1
    rw [Bool.eq_iff_iff]; simp; omega
  ·simp only [Bool.not_true,Bool.false_or,show (8:Int) < (s.needs.length:Int) by omega,decide_true,if_true,h8,decide_false,Bool.and_false,Bool.false_and]
theorem zN0 (s:WaitState):zi1 s=some (zab9 s):=by
 unfold zi1 zab9
 by_cases h8:s.needs.length≤8
 ·by_cases hq:s.queues.length≤8
  ·simp only [show ¬ (8:Int) < (s.needs.length:Int) by omega,show ¬ (8:Int) < (s.queues.length:Int) by omega,decide_false,Bool.or_self,Bool.false_eq_true,if_false,h8,decide_true,Bool.and_true]
   rw [zbm0 s.queues hq (fun i hi=>by
    unfold zO7
    have h3:0≤(i:Int)∧(i:Int) < (s.queues.length:Int):=by omega
    simp only [h3.1,h3.2,and_self,zx3,decide_true,if_true,Int.toNat_natCast,zbl2,Option.bind_some,ze6 i (show i < 4611686018427387904 by omega)]
    by_cases e0:i=0
    ·subst e0
     rw [zg6 (by simp)]
     cases zp3 (s.queues.getD 0 Queue.zero) <;> simp
    ·rw [zaw3 i (by omega) (by omega),zg6 (by intro _; omega)]
     simp only [Int.toNat_natCast,show (0:Int) < (i:Int) by omega,decide_true,Bool.true_and,e0,false_or]
     unfold ltN
     rcases hb (zp3 (s.queues.getD i Queue.zero)) with b1|b1 <;> rcases hb (Op.bytesLess (s.queues.getD (i - 1) Queue.zero).resource.name.toList (s.queues.getD i Queue.zero).resource.name.toList) with b2|b2 <;> simp [b1,b2,-List.getD_eq_getElem?_getD]) (by unfold zO7; simp)]
   unfold zah7
   simp only [hq,decide_true,Bool.true_and]
   cases ha:ascW s.queues none with
   | false=>rfl
   | true =>
    have hp:zah7 s.queues=true:=by unfold zah7; simp [hq,ha]
    simp only [if_true,Option.bind_some,Bool.true_and]
    unfold zO6
    rw [zbF3,zbn5 s h8,Option.bind_some]
    cases zaB0 s.needs with
    | false=>rfl
    | true =>
     simp only [if_true,Bool.true_and]
     unfold zO4
     rw [zar9 s hp h8,Option.bind_some]
     congr 1
     rw [Bool.eq_iff_iff]; simp; omega
  ·have:zah7 s.queues=false:=by unfold zah7; simp [hq]
   simp only [show (8:Int) < (s.queues.length:Int) by omega,decide_true,Bool.true_or,if_true,this,Bool.false_and]
 ·simp only [show (8:Int) < (s.needs.length:Int) by omega,decide_true,Bool.or_true,if_true,h8,decide_false,Bool.and_false,Bool.false_and]
end Ab
end Go.Proofs.YtebopmkhhppfaaaGreatDoor
