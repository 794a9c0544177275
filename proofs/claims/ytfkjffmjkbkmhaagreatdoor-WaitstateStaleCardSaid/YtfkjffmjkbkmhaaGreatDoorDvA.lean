import Derived.Test.YtfkjffmjkbkmhaaGreatDoorTabB
namespace Go.Proofs.YtfkjffmjkbkmhaaGreatDoor
namespace Ab
set_option linter.unusedVariables false
set_option linter.unusedSimpArgs false
mutual
def zr4:aP→Int
 | ⟨_,_,ks⟩=>1+zt3 ks
def zt3:List aP→Int
 | []=>0
 | k :: l=>max (zr4 k) (zt3 l)
end
mutual
def zp9:aP→Int
 | ⟨_,_,ks⟩=>1+zy3 ks
def zy3:List aP→Int
 | []=>0
 | k :: l=>zp9 k+zy3 l
end
def zaF4 (a:aD):Bool:=zm4 a
mutual
def okE:aP→Bool
 | ⟨k,a,ks⟩=>if ks.length=0 then decide (k=0)&&zC1 a.name&&zaF4 a.aN else decide (1≤k)&&decide (k≤(ks.length:Int))&&decide (a=aM.zero)&&okL ks
def okL:List aP→Bool
 | []=>true
 | k :: l=>okE k&&okL l
end
mutual
def zaB9:aP→List aM
 | ⟨_,a,ks⟩=>if ks.length=0 then [a] else zap3 ks
def zap3:List aP→List aM
 | []=>[]
 | k :: l=>zaB9 k++zap3 l
end
theorem zby3 (e:aP):zr4 e=1+zt3 e.bE:=by cases e; rw [zr4]
theorem zab8 (e:aP):zp9 e=1+zy3 e.bE:=by cases e; rw [zp9]
theorem zcf4 (e:aP):okE e=if e.bE.length=0 then decide (e.k=0)&&zC1 e.bF.name&&zaF4 e.bF.aN else decide (1≤e.k)&&decide (e.k≤(e.bE.length:Int))&&decide (e.bF=aM.zero)&&okL e.bE:=by cases e; rw [okE]
theorem zaL0 (e:aP):zaB9 e=if e.bE.length=0 then [e.bF] else zap3 e.bE:=by cases e; rw [zaB9]
theorem zbP1:zt3 []=0:=by rw [zt3]
theorem zaO1 (k:aP) (l:List aP):zt3 (k :: l)=max (zr4 k) (zt3 l):=by rw [zt3]
theorem zbP2:zy3 []=0:=by rw [zy3]
theorem zas6 (k:aP) (l:List aP):zy3 (k :: l)=zp9 k+zy3 l:=by rw [zy3]
theorem zaE3 {e k:aP} {n:Nat} (h:_root_.SizeOf.sizeOf e < n+1) (hk:k ∈ e.bE):_root_.SizeOf.sizeOf k < n:=by
 have h2:=List.sizeOf_lt_of_mem hk
 cases e
 simp at h h2
 omega
theorem zbG0:∀ (n:Nat) (e:aP),_root_.SizeOf.sizeOf e < n→1≤zr4 e∧1≤zp9 e∧zr4 e≤zp9 e∧((zaB9 e).length:Int)≤zp9 e
 | 0,_,h=>by omega
 | n+1,e,h=>by
  have key:∀ l:List aP,(∀ k ∈ l,k ∈ e.bE)→0≤zt3 l∧0≤zy3 l∧zt3 l≤zy3 l∧(l.length:Int)≤zy3 l∧((zap3 l).length:Int)≤zy3 l:=by
   intro l
   induction l with
   | nil=>intro _; simp [zt3,zy3,zap3]
   | cons k l ih =>
    intro hl
    obtain ⟨h1,h2,h3,h4,h5⟩:=ih fun x hx=>hl x (.tail _ hx)
    obtain ⟨g1,g2,g3,g4⟩:=zbG0 n k (zaE3 h (hl k (.head _)))
    simp only [zt3,zy3,zap3,bZ,List.length_cons]
    refine ⟨?_,?_,?_,?_,?_⟩ <;> omega
  obtain ⟨h1,h2,h3,h4,h5⟩:=key e.bE fun _ h=>h
  rw [zby3,zab8,zaL0]
  refine ⟨by omega,by omega,by omega,?_⟩
  split
  ·simp; omega
  ·omega
theorem zaq7 (e:aP):1≤zr4 e:=(zbG0 _ e (eW _)).1
theorem zX8 (e:aP):1≤zp9 e:=(zbG0 _ e (eW _)).2.1
theorem zbP3 (e:aP):((zaB9 e).length:Int)≤zp9 e:=(zbG0 _ e (eW _)).2.2.2
theorem zaL1:∀ l:List aP,0≤zt3 l
 | []=>by simp [zt3]
 | k :: l=>by have:=zaL1 l; have:=zaq7 k; rw [zaO1]; omega
theorem zL7:∀ l:List aP,(l.length:Int)≤zy3 l
 | []=>by simp [zy3]
 | k :: l=>by have:=zL7 l; have:=zX8 k; simp only [zy3,List.length_cons]; omega
theorem zbt5 {a:Int} (h1:1≤a) (h4:a≤4) (F:aP→Int→Option (Int×Int)):∀ (l:List aP),(∀ k ∈ l,∀ c,0≤c→c≤24→∃ c',F k c=some (if a+1+zr4 k≤5∧c+zp9 k≤24 then (zr4 k,c+zp9 k) else (0,c'))) →
  ∀ (i:Nat) (m c:Int),0≤m→0≤c→c≤24→∃ c',walk (fun _ k (s:Int×Int)=>(F k s.2).bind fun v=>if v.1=0 then some (.inr (Sum.inr (0,v.2))) else some (.inl (if s.1 < v.1 then v.1 else s.1,v.2))) (fun s=>Sum.inl (β:=Int×Int) s) l i (m,c) =
   some (if a+1+zt3 l≤5∧c+zy3 l≤24 then .inl (if m < zt3 l then zt3 l else m,c+zy3 l) else .inr (0,c'))
 | [],_,i,m,c,hm,hc,h24=>⟨0,by rw [zbP1,zbP2,bW (by omega)]; simp only [walk]; rw [bT (by omega),Int.add_zero]⟩
 | k :: l,hF,i,m,c,hm,hc,h24=>by
  obtain ⟨c1,e1⟩:=hF k (.head _) c hc h24
  have p1:=zaq7 k
  have p2:=zX8 k
  have p3:=zaL1 l
  have p4:=zL7 l
  by_cases hk:a+1+zr4 k≤5∧c+zp9 k≤24
  ·rw [bW hk] at e1
   obtain ⟨c2,e2⟩:=zbt5 h1 h4 F l (fun x hx=>hF x (.tail _ hx)) (i+1) (if m < zr4 k then zr4 k else m) (c+zp9 k) (by split <;> omega) (by omega) hk.2
   refine ⟨c2,?_⟩
   rw [zaO1,zas6]
   simp only [walk,e1,Option.bind_some,bT (show ¬ zr4 k=0 by omega),e2]
   by_cases hl:a+1+zt3 l≤5∧c+zp9 k+zy3 l≤24
   ·rw [bW hl,bW (show a+1+max (zr4 k) (zt3 l)≤5∧c+(zp9 k+zy3 l)≤24 by omega),show c+(zp9 k+zy3 l)=c+zp9 k+zy3 l by omega]
    refine cQ some (cQ Sum.inl (Prod.ext ?_ rfl))
    show (if (if m < zr4 k then zr4 k else m) < zt3 l then zt3 l else if m < zr4 k then zr4 k else m)=if m < max (zr4 k) (zt3 l) then max (zr4 k) (zt3 l) else m
    by_cases q1:m < zr4 k <;> by_cases q2:m < zt3 l <;> by_cases q3:zr4 k < zt3 l <;> simp only [q1,q2,q3,cB,cA] <;> (repeat' split) <;> omega
   ·rw [bT hl,bT (by omega)]
  ·rw [bT hk] at e1
   refine ⟨c1,?_⟩
   rw [zaO1,zas6]
   simp only [walk,e1,Option.bind_some,cB]
   rw [bT (by omega)]
theorem zbP4:∀ (n:Nat) (e:aP),_root_.SizeOf.sizeOf e < n→∀ a c,1≤a→a≤5→0≤c→c≤24→∃ c',zw0 n e a c=some (if a+zr4 e≤5∧c+zp9 e≤24 then (zr4 e,c+zp9 e) else (0,c'))
 | 0,_,h,_,_,_,_,_,_=>by omega
 | n+1,e,h,a,c,h1,h5,h0,h24=>by
  show ∃ c',zC7 (zw0 n) e a c=_
  unfold zC7
  have p1:=zaq7 e
  have p2:=zX8 e
  have w1:IntKind.i64.wrap (c+1)=c+1:=zi0 (by omega) (by omega)
  have w2:IntKind.i64.wrap (a+1)=a+1:=zi0 (by omega) (by omega)
  rw [w1]
  by_cases c4:4 < a∨24 < c+1
  ·rw [bW (by simpa using c4)]
   exact ⟨c+1,by rw [bT (by omega)]⟩
  ·rw [bT (by simpa using c4)]
   have hF:∀ k ∈ e.bE,∀ c,0≤c→c≤24→∃ c',zw0 n k (a+1) c=some (if a+1+zr4 k≤5∧c+zp9 k≤24 then (zr4 k,c+zp9 k) else (0,c')) :=
    fun k hk c h0 h24=>zbP4 n k (zaE3 h hk) (a+1) c (by omega) (by omega) h0 h24
   have key:=zA2 (body:=zG5 (zw0 n) e a) e.bE aP.zero (fun i (s:Int×Int)=>(s.1,(i:Int),s.2))
    (fun _ k (s:Int×Int)=>(zw0 n k (a+1) s.2).bind fun v=>if v.1=0 then some (.inr (Sum.inr (0,v.2))) else some (.inl (if s.1 < v.1 then v.1 else s.1,v.2))) (fun s=>Sum.inl (β:=Int×Int) s)
    (fun i s=>(i:Int) < s.2∧s.2≤24) (fun i s hi hs=>by
     have hk:=zd1 (z:=aP.zero) hi
     obtain ⟨c',e'⟩:=hF _ hk s.2 (by omega) hs.2
     have p2:=zX8 (e.bE.getD i aP.zero)
     have p3:=zaq7 (e.bE.getD i aP.zero)
     refine ⟨?_,fun s' hs'=>?_⟩
     ·unfold zG5
      simp only
      rw [bW (by simpa using hi),gdp (by omega),w2]
      simp only [Int.toNat_natCast,e',Option.bind_some,bX,zc6 i (show i < 4611686018427387904 by omega)]
      by_cases cc:a+1+zr4 (e.bE.getD i aP.zero)≤5∧s.2+zp9 (e.bE.getD i aP.zero)≤24
      ·simp only [cc,cX,cB,bT (show ¬ zr4 (e.bE.getD i aP.zero)=0 by omega)]; rfl
      ·simp only [cc,cA,cB]; rfl
     ·rw [e',Option.bind_some] at hs'
      by_cases cc:a+1+zr4 (e.bE.getD i aP.zero)≤5∧s.2+zp9 (e.bE.getD i aP.zero)≤24
      ·simp only [cc,cX,cB,bT (show ¬ zr4 (e.bE.getD i aP.zero)=0 by omega),dC,fF] at hs'
       subst hs'
       simp only
       omega
      ·simp only [cc,cA,cB,dC,reduceCtorEq] at hs')
    (fun s hs=>by unfold zG5; simp) (0,c+1) (by simp only; omega)
   rw [show ((0,0,c+1):Int×Int×Int)=(fun (i:Nat) (s:Int×Int)=>(s.1,(i:Int),s.2)) 0 (0,c+1) from rfl,key]
   obtain ⟨c',e'⟩:=zbt5 h1 (by omega) (fun k c=>zw0 n k (a+1) c) e.bE hF 0 0 (c+1) (by decide) (by omega) (by omega)
   refine ⟨c',?_⟩
   rw [e',Option.bind_some,zby3 e,zab8 e]
   have p3:=zaL1 e.bE
   by_cases hh:a+1+zt3 e.bE≤5∧c+1+zy3 e.bE≤24
   ·rw [bW hh,bW (show a+(1+zt3 e.bE)≤5∧c+(1+zy3 e.bE)≤24 by omega)]
    have:(if 0 < zt3 e.bE then zt3 e.bE else 0)=zt3 e.bE:=by split <;> omega
    rw [this]
    show some (IntKind.i64.wrap (zt3 e.bE+1),c+1+zy3 e.bE)=_
    rw [zi0 (by omega) (by omega),show zt3 e.bE+1=1+zt3 e.bE by omega,show c+1+zy3 e.bE=c+(1+zy3 e.bE) by omega]
   ·rw [bT hh,bT (by omega)]
def fitE (e:aP):Bool:=decide (zr4 e≤4)&&decide (zp9 e≤24)
theorem zdb2 (e:aP):zk3 e=some (if fitE e=true then zr4 e else 0):=by
 unfold zk3 ze3
 obtain ⟨c',h⟩:=zbP4 _ e (eW _) 1 0 (by decide) (by decide) (by decide) (by decide)
 rw [h,Option.bind_some]
 unfold fitE
 by_cases c:1+zr4 e≤5∧0+zp9 e≤24
 ·rw [bW c,bW (by simp; omega)]
 ·rw [bT c,bT (by simp; omega)]
theorem zbY2 {a:Int} (h1:1≤a) (h4:a≤4) (F:aP→Option (Int×Int)):∀ (l:List aP),(∀ k ∈ l,F k=some (if a+1+zr4 k≤5∧zp9 k≤24 then (zp9 k,zr4 k) else (25,0))) →
  ∀ (i:Nat) (c m:Int),0≤m→1≤c→c≤24→walk (fun _ k (s:Int×Int)=>(F k).bind fun v=>if 24 < s.1+v.1 then some (.inr (Sum.inr (25,0))) else some (.inl (s.1+v.1,if s.2 < v.2 then v.2 else s.2))) (fun s=>Sum.inl (β:=Int×Int) s) l i (c,m) =
   some (if a+1+zt3 l≤5∧c+zy3 l≤24 then .inl (c+zy3 l,if m < zt3 l then zt3 l else m) else .inr (25,0))
 | [],_,i,c,m,hm,hc,h24=>by rw [zbP1,zbP2,bW (by omega)]; simp only [walk]; rw [bT (by omega),Int.add_zero]
 | k :: l,hF,i,c,m,hm,hc,h24=>by
  have e1:=hF k (.head _)
  have p1:=zaq7 k
  have p2:=zX8 k
  have p3:=zaL1 l
  have p4:=zL7 l
  rw [zaO1,zas6]
  by_cases hk:a+1+zr4 k≤5∧c+zp9 k≤24
  ·rw [bW (by omega)] at e1
   have e2:=zbY2 h1 h4 F l (fun x hx=>hF x (.tail _ hx)) (i+1) (c+zp9 k) (if m < zr4 k then zr4 k else m) (by split <;> omega) (by omega) hk.2
   simp only [walk,e1,Option.bind_some,bT (show ¬ 24 < c+zp9 k by omega),e2]
   by_cases hl:a+1+zt3 l≤5∧c+zp9 k+zy3 l≤24
   ·rw [bW hl,bW (show a+1+max (zr4 k) (zt3 l)≤5∧c+(zp9 k+zy3 l)≤24 by omega),show c+(zp9 k+zy3 l)=c+zp9 k+zy3 l by omega]
    refine cQ some (cQ Sum.inl (Prod.ext rfl ?_))
    show (if (if m < zr4 k then zr4 k else m) < zt3 l then zt3 l else if m < zr4 k then zr4 k else m)=if m < max (zr4 k) (zt3 l) then max (zr4 k) (zt3 l) else m
    by_cases q1:m < zr4 k <;> by_cases q2:m < zt3 l <;> by_cases q3:zr4 k < zt3 l <;> simp only [q1,q2,q3,cB,cA] <;> (repeat' split) <;> omega
   ·rw [bT hl,bT (by omega)]
  ·rw [bT (by omega)]
   simp only [walk,e1,Option.bind_some]
   by_cases hh:a+1+zr4 k≤5∧zp9 k≤24
   ·rw [bW hh,bW (by simp only; omega)]
   ·rw [bT hh,bW (by simp only; omega)]
theorem zcF7:∀ (n:Nat) (e:aP),_root_.SizeOf.sizeOf e < n→∀ a,1≤a→a≤5→zM1 n e a=some (if a+zr4 e≤5∧zp9 e≤24 then (zp9 e,zr4 e) else (25,0))
 | 0,_,h,_,_,_=>by omega
 | n+1,e,h,a,h1,h5=>by
  show zZ4 (zM1 n) e a=_
  unfold zZ4
  have p1:=zaq7 e
  have p4:=zL7 e.bE
  have w2:IntKind.i64.wrap (a+1)=a+1:=zi0 (by omega) (by omega)
  by_cases c4:4 < a∨24 < (e.bE.length:Int)
  ·rw [bW (by simpa using c4),bT (by rw [zab8]; omega)]
  ·rw [bT (by simpa using c4)]
   have hF:∀ k ∈ e.bE,zM1 n k (a+1)=some (if a+1+zr4 k≤5∧zp9 k≤24 then (zp9 k,zr4 k) else (25,0)) :=
    fun k hk=>zcF7 n k (zaE3 h hk) (a+1) (by omega) (by omega)
   have key:=zA2 (body:=zU9 (zM1 n) e a) e.bE aP.zero (fun i (s:Int×Int)=>(s.1,s.2,(i:Int)))
    (fun _ k (s:Int×Int)=>(zM1 n k (a+1)).bind fun v=>if 24 < s.1+v.1 then some (.inr (Sum.inr (25,0))) else some (.inl (s.1+v.1,if s.2 < v.2 then v.2 else s.2))) (fun s=>Sum.inl (β:=Int×Int) s)
    (fun i s=>1≤s.1∧s.1≤24) (fun i s hi hs=>by
     have hk:=zd1 (z:=aP.zero) hi
     have e':=hF _ hk
     have p2:=zX8 (e.bE.getD i aP.zero)
     refine ⟨?_,fun s' hs'=>?_⟩
     ·unfold zU9
      simp only
      rw [bW (by simpa using hi),gdp (by omega),w2]
      simp only [Int.toNat_natCast,e',Option.bind_some,bX]
      unfold zao8
      by_cases cc:a+1+zr4 (e.bE.getD i aP.zero)≤5∧zp9 (e.bE.getD i aP.zero)≤24
      ·rw [bW cc]
       simp only [zc6 i (show i < 4611686018427387904 by omega),zi0 (x:=s.1+zp9 (e.bE.getD i aP.zero)) (by omega) (by omega),bX]
       repeat' split
       all_goals first|rfl|omega
      ·rw [bT cc]
       simp only [zi0 (x:=s.1+25) (by omega) (by omega),bX,bW (show 24 < s.1+25 by omega),kA]
       rfl
     ·rw [e',Option.bind_some] at hs'
      by_cases cc:a+1+zr4 (e.bE.getD i aP.zero)≤5∧zp9 (e.bE.getD i aP.zero)≤24
      ·simp only [cc,cX,cB] at hs'
       split at hs'
       ·cases hs'
       ·simp only [dC,fF] at hs'
        subst hs'
        simp only
        omega
      ·simp only [cc,cA,bW (show 24 < s.1+25 by omega),dC,reduceCtorEq] at hs')
    (fun s hs=>by unfold zU9; simp) (1,0) (by simp only; omega)
   rw [show ((1,0,0):Int×Int×Int)=(fun (i:Nat) (s:Int×Int)=>(s.1,s.2,(i:Int))) 0 (1,0) from rfl,key]
   rw [zbY2 h1 (by omega) (fun k=>zM1 n k (a+1)) e.bE hF 0 1 0 (by omega) (by omega) (by omega),Option.bind_some,zby3 e,zab8 e]
   have p3:=zaL1 e.bE
   by_cases hh:a+1+zt3 e.bE≤5∧1+zy3 e.bE≤24
   ·rw [bW hh,bW (show a+(1+zt3 e.bE)≤5∧1+zy3 e.bE≤24 by omega)]
    have:(if 0 < zt3 e.bE then zt3 e.bE else 0)=zt3 e.bE:=by split <;> omega
    rw [this]
    show some (1+zy3 e.bE,IntKind.i64.wrap (zt3 e.bE+1))=_
    rw [zi0 (by omega) (by omega),show zt3 e.bE+1=1+zt3 e.bE by omega]
   ·rw [bT hh,bT (by omega)]
theorem zdb3 (e:aP):zm8 e=some (if fitE e=true then zp9 e else 0):=by
 unfold zm8 zn7
 have p:=zX8 e
 rw [zcF7 _ e (eW _) 1 (by decide) (by decide),Option.bind_some]
 unfold fitE
 by_cases c:1+zr4 e≤5∧zp9 e≤24
 ·rw [bW c]
  simp only [show ¬ 24 < zp9 e by omega,show zr4 e≤4 by omega,c.2,cC,cK,gJ,bU,cB,cA]
 ·rw [bT c]
  have:(decide (zr4 e≤4)&&decide (zp9 e≤24))=false:=by rw [dU]; simp; omega
  rw [this]
  rfl
def zaL2 (a:aM):List aM→Option Bool
 | []=>none
 | x :: l=>if a=x then some true else if (a.name.toList == x.name.toList)=true then some false else zaL2 a l
def zbt6 (a:aM) (l:List aM):Int×List aM :=
 match zaL2 a l with
 | some true=>(0,l)
 | some false=>(13,l)
 | none=>if l.length=8 then (4,l) else (0,l++[a])
def zbP5 (a:aM) (l:List aM):Option (List aM):=if (zbt6 a l).1=0 then some (zbt6 a l).2 else none
def zaq8:List aM→List aM→Option (List aM)
 | [],l=>some l
 | a :: az,l=>(zbP5 a l).bind (zaq8 az)
theorem zbP6:∀ (x y l:List aM),zaq8 (x++y) l=(zaq8 x l).bind (zaq8 y)
 | [],y,l=>rfl
 | a :: x,y,l=>by
  simp only [List.cons_append,zaq8]
  cases zbP5 a l with
  | none=>rfl
  | some l'=>exact zbP6 x y l'
theorem zdb4 {a:aM} {l:List aM} (h:l.length≤8):(zbt6 a l).2.length≤8:=by
 unfold zbt6
 split
 ·exact h
 ·exact h
 ·split
  ·exact h
  ·simp; omega
theorem zby4:∀ {x l r:List aM},l.length≤8→zaq8 x l=some r→r.length≤8
 | [],l,r,h,e=>by cases e; exact h
 | a :: x,l,r,h,e=>by
  simp only [zaq8] at e
  unfold zbP5 at e
  split at e
  ·exact zby4 (zdb4 h) e
  ·cases e
theorem zdm4 (a:aM) (l:List aM) (h:l.length≤8):zf7 a l=some (zbt6 a l):=by
 unfold zf7
 have hw:∀ (t:List aM) (i:Nat),walk (fun _ x (_:Unit)=>if a=x then some (.inr (Sum.inr ((0:Int),l))) else if (a.name.toList == x.name.toList)=true then some (.inr (Sum.inr ((13:Int),l))) else some (.inl ())) (fun _=>Sum.inl (β:=Int×List aM) ()) t i () =
   some (match zaL2 a t with|some true=>.inr (0,l)|some false=>.inr (13,l)|none=>.inl ()):=by
  intro t
  induction t with
  | nil=>intro i; rfl
  | cons x t ih =>
   intro i
   simp only [walk,zaL2]
   by_cases c:a=x
   ·simp only [c,cB]
   ·by_cases c2:(a.name.toList == x.name.toList)=true
    ·simp only [c,c2,cB,cA]
    ·simp only [c,c2,cA]; exact ih (i+1)
 have key:=zai2 (body:=zQ3 a l) l aM.zero (fun i (_:Unit)=>(i:Int))
  (fun _ x (_:Unit)=>if a=x then some (.inr (Sum.inr ((0:Int),l))) else if (a.name.toList == x.name.toList)=true then some (.inr (Sum.inr ((13:Int),l))) else some (.inl ())) (fun _=>Sum.inl (β:=Int×List aM) ())
  (fun i s hi=>by
   unfold zQ3
   rw [bW (by simpa using hi),gdp (by omega),zc6 i (by omega)]
   simp only [Int.toNat_natCast,bX]
   repeat' split
   all_goals rfl)
  (fun s=>by unfold zQ3; simp) ()
 rw [show (0:Int)=(fun (i:Nat) (_:Unit)=>(i:Int)) 0 () from rfl,key,hw,Option.bind_some]
 unfold zbt6
 cases zaL2 a l with
 | none =>
  simp only
  unfold zam7
  by_cases c:l.length=8
  ·rw [bW (by simp [c]),bW c]
  ·rw [bT (by simp; omega),bT c,gdp (by omega)]
 | some b=>cases b <;> rfl
def zae5 (e:aP) (l:List aM):Option (List aM):=if okE e=true then zaq8 (zaB9 e) l else none
def zbC2 (ks:List aP) (l:List aM):Option (List aM):=if okL ks=true then zaq8 (zap3 ks) l else none
theorem zcy3 (k:aP) (ks:List aP) (l:List aM):zbC2 (k :: ks) l=(zae5 k l).bind (zbC2 ks):=by
 unfold zbC2 zae5
 simp only [okL,zap3,zbP6]
 cases okE k
 ·simp
 ·simp only [cJ,cB]
  cases zaq8 (zaB9 k) l with
  | none=>simp
  | some r=>simp only [Option.bind_some]
theorem zcf5 (a:aM):zi3 a=some (zC1 a.name&&zaF4 a.aN):=by
 unfold zi3
 rw [zaZ9,Option.bind_some]
 congr 2
theorem zbC3 (F:aP→List aM→Option (Bool×List aM)):∀ (ks:List aP),(∀ k ∈ ks,∀ l,l.length≤8→∃ r,F k l=some (match zae5 k l with|some l'=>(true,l')|none=>(false,r))) →
  ∀ (i:Nat) (l:List aM),l.length≤8→∃ r,walk (fun _ k (s:List aM)=>(F k s).bind fun v=>if (!v.1)=true then some (.inr (Sum.inr (false,v.2))) else some (.inl v.2)) (fun s=>Sum.inl (β:=Bool×List aM) s) ks i l =
   some (match zbC2 ks l with|some l'=>.inl l'|none=>.inr (false,r))
 | [],_,i,l,hl=>⟨[],by simp [walk,zbC2,okL,zap3,zaq8]⟩
 | k :: ks,hF,i,l,hl=>by
  obtain ⟨r,e⟩:=hF k (.head _) l hl
  rw [zcy3]
  cases hp:zae5 k l with
  | none =>
   rw [hp] at e
   refine ⟨r,?_⟩
   simp only [walk,e,Option.bind_some,Option.bind_none,dF,cB]
  | some l' =>
   rw [hp] at e
   have hl':l'.length≤8:=by
    unfold zae5 at hp
    split at hp
    ·exact zby4 hl hp
    ·cases hp
   obtain ⟨r2,e2⟩:=zbC3 F ks (fun x hx=>hF x (.tail _ hx)) (i+1) l' hl'
   refine ⟨r2,?_⟩
   simp only [walk,e,Option.bind_some,cU,bU,cA,e2]
theorem zdb5 {e:aP} {l l':List aM} (hl:l.length≤8) (hp:zae5 e l=some l'):l'.length≤8:=by
 unfold zae5 at hp
 split at hp
 ·exact zby4 hl hp
 ·cases hp
theorem zcp5:∀ (n:Nat) (e:aP),_root_.SizeOf.sizeOf e < n→zp9 e≤24→∀ l,l.length≤8→∃ r,zv0 n e l=some (match zae5 e l with|some l'=>(true,l')|none=>(false,r))
 | 0,_,h,_,_,_=>by omega
 | n+1,e,h,hn,l,hl=>by
  show ∃ r,zN3 (zv0 n) e l=_
  unfold zN3
  have p4:=zL7 e.bE
  have hne:=zab8 e
  by_cases c:e.bE.length=0
  ·rw [bW (by simpa using c),zcf5]
   have hp:zae5 e l=if e.k=0∧zC1 e.bF.name=true∧zaF4 e.bF.aN=true then zbP5 e.bF l else none:=by
    unfold zae5
    rw [zcf4,zaL0,bW c,bW c]
    simp only [zaq8,bS,bX,fY]
    split
    ·cases zbP5 e.bF l <;> rfl
    ·rfl
   rw [hp]
   by_cases c1:e.k=0
   ·simp only [c1,cC,cB,Option.bind_some,cJ,gC]
    by_cases c2:zC1 e.bF.name=true∧zaF4 e.bF.aN=true
    ·simp only [c2.1,c2.2,gJ,cX,cB,zdm4 e.bF l hl,Option.bind_some,cJ]
     refine ⟨(zbt6 e.bF l).2,?_⟩
     unfold zbP5
     by_cases c3:(zbt6 e.bF l).1=0
     ·simp only [c3,cC,cB]
     ·simp only [c3,cK,cA]
    ·have:(zC1 e.bF.name&&zaF4 e.bF.aN)=false:=by rw [dU]; simpa using c2
     simp only [this,c2,bU,cA,eP]
     exact ⟨l,rfl⟩
   ·simp only [c1,cK,bU,cA,Option.bind_some,eP,jP]
    exact ⟨l,rfl⟩
  ·rw [bT (by simpa using c)]
   have hp:zae5 e l=if 1≤e.k∧e.k≤(e.bE.length:Int)∧e.bF=aM.zero then zbC2 e.bE l else none:=by
    unfold zae5 zbC2
    rw [zcf4,zaL0,bT c,bT c]
    by_cases q1:1≤e.k <;> by_cases q2:e.k≤(e.bE.length:Int) <;> by_cases q3:e.bF=aM.zero <;> simp [q1,q2,q3]
   rw [hp]
   by_cases c1:1≤e.k∧e.k≤(e.bE.length:Int)∧e.bF=aM.zero
   ·rw [bW c1,bT (by simp [c1.2.2]; omega)]
    have hF:∀ k ∈ e.bE,∀ l,l.length≤8→∃ r,zv0 n k l=some (match zae5 k l with|some l'=>(true,l')|none=>(false,r)):=by
     intro k hk l hl
     refine zcp5 n k (zaE3 h hk) ?_ l hl
     have:∀ (ks:List aP),k ∈ ks→zp9 k≤zy3 ks:=by
      intro ks
      induction ks with
      | nil=>intro h; cases h
      | cons x ks ih =>
       intro h
       rw [zas6]
       have p1:=zX8 x
       have p2:=zL7 ks
       rcases cE.1 h with rfl|h
       ·omega
       ·have:=ih h; omega
     have:=this e.bE hk
     omega
    have key:=zA2 (body:=zJ6 (zv0 n) e) e.bE aP.zero (fun i (s:List aM)=>((i:Int),s))
     (fun _ k (s:List aM)=>(zv0 n k s).bind fun v=>if (!v.1)=true then some (.inr (Sum.inr (false,v.2))) else some (.inl v.2)) (fun s=>Sum.inl (β:=Bool×List aM) s)
     (fun i s=>s.length≤8) (fun i s hi hs=>by
      obtain ⟨r,er⟩:=hF _ (zd1 (z:=aP.zero) hi) s hs
      refine ⟨?_,fun s' hs'=>?_⟩
      ·unfold zJ6
       simp only
       rw [bW (by simpa using hi),gdp (by omega)]
       simp only [Int.toNat_natCast,er,Option.bind_some,zc6 i (show i < 4611686018427387904 by omega)]
       cases zae5 (e.bE.getD i aP.zero) s <;> rfl
      ·rw [er,Option.bind_some] at hs'
       cases hq:zae5 (e.bE.getD i aP.zero) s with
       | none=>rw [hq] at hs'; simp at hs'
       | some l' =>
        rw [hq] at hs'
        simp only [cU,bU,cA,dC,fF] at hs'
        subst hs'
        exact zdb5 hs hq)
     (fun s hs=>by unfold zJ6; simp) l hl
    rw [show ((0,l):Int×List aM)=(fun (i:Nat) (s:List aM)=>((i:Int),s)) 0 l from rfl,key]
    obtain ⟨r,er⟩:=zbC3 (zv0 n) e.bE hF 0 l hl
    rw [er,Option.bind_some]
    refine ⟨r,?_⟩
    cases zbC2 e.bE l <;> rfl
   ·rw [bT c1,bW (by
     simp only [dG,bX,cS,cR]
     by_cases q:e.bF=aM.zero
     ·left; have:=mt (fun h:1≤e.k∧e.k≤(e.bE.length:Int)=>(⟨h.1,h.2,q⟩:1≤e.k∧e.k≤(e.bE.length:Int)∧e.bF=aM.zero)) c1; omega
     ·exact .inr q)]
    exact ⟨l,rfl⟩
theorem zbf2 (e:aP):zo7 e=some (fitE e&&(zae5 e []).isSome):=by
 unfold zo7
 rw [zdb2,Option.bind_some]
 have p:=zaq7 e
 cases hf:fitE e with
 | false=>rfl
 | true =>
  simp only [cB,show ¬ zr4 e=0 by omega,cK,dF,cJ]
  unfold zq8
  have hn:zp9 e≤24:=by unfold fitE at hf; simp at hf; omega
  obtain ⟨r,er⟩:=zcp5 _ e (eW _) hn [] (by simp)
  rw [er,Option.bind_some]
  cases zae5 e [] <;> rfl
def addA (a:aM) (l:List aM):List aM:=if a ∈ l then l else l++[a]
def addS:List aM→List aM→List aM
 | [],l=>l
 | a :: az,l=>addS az (addA a l)
theorem zcp6:∀ (x y l:List aM),addS (x++y) l=addS y (addS x l)
 | [],_,_=>rfl
 | a :: x,y,l=>zcp6 x y (addA a l)
theorem zdb6 (a:aM) (l:List aM):∃ t,addA a l=l++t:=by
 unfold addA
 split
 ·exact ⟨[],by simp⟩
 ·exact ⟨[a],rfl⟩
theorem zbP7:∀ (x l:List aM),∃ t,addS x l=l++t
 | [],l=>⟨[],by simp [addS]⟩
 | a :: x,l=>by
  obtain ⟨t1,h1⟩:=zdb6 a l
  obtain ⟨t2,h2⟩:=zbP7 x (addA a l)
  exact ⟨t1++t2,by rw [addS,h2,h1,dB]⟩
theorem zcf6:∀ (x l:List aM),(addS x l).length≤l.length+x.length
 | [],l=>by simp [addS]
 | a :: x,l=>by
  have h1:=zcf6 x (addA a l)
  have h2:(addA a l).length≤l.length+1:=by unfold addA; split <;> simp
  simp only [addS,List.length_cons]; omega
def dnN (l:List aM):Prop:=l.Pairwise fun x y=>(x.name.toList == y.name.toList)=false
theorem zbY3 {a:aM}:∀ {l:List aM},dnN l→a ∈ l→zaL2 a l=some true
 | x :: l,h,hm=>by
  unfold dnN at h
  rw [cP] at h
  unfold zaL2
  by_cases c:a=x
  ·rw [bW c]
  ·rw [bT c]
   rcases cE.1 hm with e|hm
   ·exact absurd e c
   ·have:=h.1 a hm
    rw [bT (by rw [dI]; intro e; rw [e] at this; simp at this)]
    exact zbY3 h.2 hm
theorem zbp6 {a:aM}:∀ {l:List aM},zaL2 a l=none→∀ x ∈ l,(x.name.toList == a.name.toList)=false
 | y :: l,h,x,hx=>by
  unfold zaL2 at h
  split at h
  ·cases h
  ·split at h
   ·cases h
   ·rename_i h1 h2
    rcases cE.1 hx with rfl|hx
    ·rw [dU]
     intro e
     rw [dI] at e
     exact h2 (by rw [dI]; exact e.symm)
    ·exact zbp6 h x hx
theorem zbC4 {a:aM}:∀ {l:List aM},dnN l→zaL2 a l=some false→a ∉ l∧∃ x ∈ l,(x.name.toList == a.name.toList)=true
 | y :: l,hd,h=>by
  refine ⟨fun hm=>?_,?_⟩
  ·rw [zbY3 hd hm] at h; cases h
  ·unfold zaL2 at h
   split at h
   ·cases h
   ·split at h
    ·rename_i h2
     exact ⟨y,.head _,by rw [dI] at h2 ⊢; exact h2.symm⟩
    ·unfold dnN at hd
     rw [cP] at hd
     obtain ⟨_,x,hx,e⟩:=zbC4 hd.2 h
     exact ⟨x,.tail _ hx,e⟩
theorem zcy4 {a:aM} {l:List aM} (h:zaL2 a l=none):a ∉ l:=fun hm=>by
 have:=zbp6 h a hm
 simp at this
theorem zdm5 {l t:List aM} (h:dnN (l++t)):dnN l:=(eH.1 h).1
theorem zbp7:∀ (x l:List aM),l.length≤8→dnN l→((zaq8 x l).isSome=true ↔ (addS x l).length≤8∧dnN (addS x l))
 | [],l,h8,hd=>by simp [zaq8,addS,h8,hd]
 | a :: x,l,h8,hd=>by
  simp only [zaq8,addS]
  unfold zbP5 zbt6
  cases hn:zaL2 a l with
  | some b =>
   cases b with
   | true =>
    have hm:a ∈ l:=by
     refine jS fun hm=>?_
     have:∀ l:List aM,a ∉ l→zaL2 a l≠some true:=by
      intro l
      induction l with
      | nil=>intro _ h; cases h
      | cons y l ih =>
       intro hm h
       unfold zaL2 at h
       rw [bT (fun (e:a=y)=>hm (by rw [e]; exact .head _))] at h
       split at h
       ·cases h
       ·exact ih (fun h=>hm (.tail _ h)) h
     exact this l hm hn
    simp only [cB,Option.bind_some]
    unfold addA
    rw [bW hm]
    exact zbp7 x l h8 hd
   | false =>
    obtain ⟨hm,y,hy,e⟩:=zbC4 hd hn
    simp only [show ¬ (13:Int)=0 by decide,cA,Option.bind_none,Option.isSome_none,bU,false_iff]
    rintro ⟨_,h2⟩
    unfold addA at h2
    rw [bT hm] at h2
    obtain ⟨t,ht⟩:=zbP7 x (l++[a])
    rw [ht] at h2
    have h3:=(eH.1 (zdm5 h2)).2.2 y hy a (dL.2 rfl)
    rw [e] at h3; cases h3
  | none =>
   have hm:=zcy4 hn
   have ha:addA a l=l++[a]:=by unfold addA; rw [bT hm]
   rw [ha]
   by_cases c:l.length=8
   ·simp only [c,cB,show ¬ (4:Int)=0 by decide,cA,Option.bind_none,Option.isSome_none,bU,false_iff]
    rintro ⟨h1,_⟩
    obtain ⟨t,ht⟩:=zbP7 x (l++[a])
    rw [ht] at h1
    simp at h1
    omega
   ·simp only [c,cA,cB,Option.bind_some]
    refine zbp7 x (l++[a]) (by simp; omega) ?_
    unfold dnN
    rw [eH]
    exact ⟨hd,List.pairwise_singleton _ _,fun y hy z hz=>by rw [dL.1 hz]; exact zbp6 hn y hy⟩
def addO (e:aP) (l:List aM):Option (List aM):=if okE e=true then some (addS (zaB9 e) l) else none
def addL (ks:List aP) (l:List aM):Option (List aM):=if okL ks=true then some (addS (zap3 ks) l) else none
theorem zcM5 (k:aP) (ks:List aP) (l:List aM):addL (k :: ks) l=(addO k l).bind (addL ks):=by
 unfold addL addO
 simp only [okL,zap3,zcp6]
 cases okE k <;> simp
def bad1 (r:Nat⊕(Bool×List aM)):Prop:=match r with|.inl _=>True|.inr v=>v.1=false
def got1 (F:Option (Nat⊕(Bool×List aM))) (o:Option (List aM)):Prop:=match o with|some l=>F=some (.inr (true,l))|none=>∃ r,F=some r∧bad1 r
theorem zcM6 (a:aM) (l:List aM) {X:Type} (x:X) {body:Int→Option (Int⊕(Unit⊕X))} (hl:l.length < 4611686018427387904)
  (hb:∀ i:Nat,i < l.length→body (i:Int)=if l.getD i aM.zero=a then some (.inr (.inr x)) else some (.inl ((i+1:Nat):Int))) (he:body (l.length:Int)=some (.inr (.inl ()))) :
  zb9 body 0=some (if a ∈ l then .inr x else .inl ()):=by
 have hw:∀ (t:List aM) (i:Nat),walk (fun _ y (_:Unit)=>if y=a then some (.inr (Sum.inr x)) else some (.inl ())) (fun _=>Sum.inl (β:=X) ()) t i ()=some (if a ∈ t then .inr x else .inl ()):=by
  intro t
  induction t with
  | nil=>intro i; simp [walk]
  | cons y t ih =>
   intro i
   simp only [walk]
   by_cases c:y=a
   ·rw [bW c]; simp [c]
   ·rw [bT c]
    simp only [ih (i+1),cE,show ¬ a=y from fun e=>c e.symm,jB]
 have key:=zai2 (body:=body) l aM.zero (fun i (_:Unit)=>(i:Int)) (fun _ y (_:Unit)=>if y=a then some (.inr (Sum.inr x)) else some (.inl ())) (fun _=>Sum.inl (β:=X) ())
  (fun i s hi=>by rw [hb i hi]; split <;> rfl) (fun s=>he) ()
 rw [show (0:Int)=(fun (i:Nat) (_:Unit)=>(i:Int)) 0 () from rfl,key,hw]
theorem zbP8 (F:aP→List aM→Option (Nat⊕(Bool×List aM))) {Y:Type} {B:Nat}:∀ (ks:List aP),(∀ k ∈ ks,∀ l,(l.length:Int)+zp9 k≤B→got1 (F k l) (addO k l)) →
  ∀ (i:Nat) (l:List aM),(l.length:Int)+zy3 ks≤B→(match addL ks l with
   | some l'=>walk (fun _ k (s:List aM)=>(F k s).bind fun v=>match v with|.inl v=>some (.inr (Sum.inr (Sum.inl s.length)))|.inr v=>if (!v.1)=true then some (.inr (Sum.inr (.inl s.length))) else some (.inl v.2)) (fun s=>Sum.inl (β:=Nat⊕Y) s) ks i l=some (.inl l')
   | none=>∃ r,walk (fun _ k (s:List aM)=>(F k s).bind fun v=>match v with|.inl v=>some (.inr (Sum.inr (Sum.inl s.length)))|.inr v=>if (!v.1)=true then some (.inr (Sum.inr (.inl s.length))) else some (.inl v.2)) (fun s=>Sum.inl (β:=Nat⊕Y) s) ks i l=some (.inr (.inl r)))
 | [],_,i,l,hl=>by simp [walk,addL,okL,zap3,addS]
 | k :: ks,hF,i,l,hl=>by
  rw [zas6] at hl
  have p1:=zL7 ks
  have e:=hF k (.head _) l (by omega)
  rw [zcM5]
  cases hp:addO k l with
  | none =>
   rw [hp] at e
   obtain ⟨r,er,hb⟩:=e
   simp only [Option.bind_none]
   refine ⟨l.length,?_⟩
   simp only [walk,er,Option.bind_some]
   cases r with
   | inl r=>rfl
   | inr v =>
    have hv:v.1=false:=hb
    simp only [hv,dF,cB]
  | some l' =>
   rw [hp] at e
   have e':F k l=some (.inr (true,l')):=e
   have hl':(l'.length:Int)≤l.length+zp9 k:=by
    unfold addO at hp
    split at hp
    ·cases hp
     have h1:=zcf6 (zaB9 k) l
     have h2:=zbP3 k
     omega
    ·cases hp
   have e2:=zbP8 (Y:=Y) F ks (fun x hx=>hF x (.tail _ hx)) (i+1) l' (by omega)
   simp only [walk,e',Option.bind_some,cU,bU,cA]
   exact e2
theorem zby5 {e k:aP} (hk:k ∈ e.bE):zp9 k+1≤zp9 e:=by
 have:∀ (ks:List aP),k ∈ ks→zp9 k≤zy3 ks:=by
  intro ks
  induction ks with
  | nil=>intro h; cases h
  | cons x ks ih =>
   intro h
   rw [zas6]
   have p1:=zX8 x
   have p2:=zL7 ks
   rcases cE.1 h with rfl|h
   ·omega
   ·have:=ih h; omega
 have:=this e.bE hk
 rw [zab8 e]; omega
theorem zcp7 {e:aP} (c:e.bE.length=0):okE e=true ↔ e.k=0∧zC1 e.bF.name=true∧zaF4 e.bF.aN=true:=by
 rw [zcf4,bW c]; simp [fY]
theorem zcp8 {e:aP} (c:¬ e.bE.length=0):okE e=true ↔ (1≤e.k∧e.k≤(e.bE.length:Int)∧e.bF=aM.zero)∧okL e.bE=true:=by
 rw [zcf4,bT c]; simp [fY]
theorem zbY4 {e:aP} (c:e.bE.length=0) (l:List aM):addO e l=if e.k=0∧zC1 e.bF.name=true∧zaF4 e.bF.aN=true then some (addA e.bF l) else none:=by
 unfold addO
 rw [zaL0,bW c]
 simp only [zcp7 c]
 rfl
theorem zbY5 {e:aP} (c:¬ e.bE.length=0) (l:List aM):addO e l=if 1≤e.k∧e.k≤(e.bE.length:Int)∧e.bF=aM.zero then addL e.bE l else none:=by
 unfold addO addL
 rw [zaL0,bT c]
 simp only [zcp8 c]
 by_cases c1:1≤e.k∧e.k≤(e.bE.length:Int)∧e.bF=aM.zero <;> simp only [c1,gC,jP,cB,cA,cX]
theorem zdb7:∀ (n:Nat) (e:aP),_root_.SizeOf.sizeOf e < n→∀ l,(l.length:Int)+zp9 e≤100→got1 (zy8 n e l) (addO e l)
 | 0,_,h,_,_=>by omega
 | n+1,e,h,l,hl=>by
  show got1 (zx4 (zy8 n) e l) _
  unfold zx4
  have p4:=zL7 e.bE
  have hne:=zab8 e
  by_cases c:e.bE.length=0
  ·rw [bW (by simpa using c),zbY4 c]
   by_cases c1:e.k=0
   ·simp only [c1,cC,cB,zaB5,Option.bind_some,cU,dR,gC]
    by_cases c2:zC1 e.bF.name=true∧zaF4 e.bF.aN=true
    ·rw [bW c2,bT (by have:=c2.2; unfold zaF4 at this; simp [c2.1,this])]
     rw [zcM6 e.bF l (x:=Sum.inr (true,l)) (by omega) (fun i hi=>by
      unfold zag0
      rw [bW (by simpa using hi),gdp (by omega),zc6 i (by omega)]
      simp only [Int.toNat_natCast,bX]) (by unfold zag0; simp),Option.bind_some]
     unfold addA got1
     by_cases c3:e.bF ∈ l
     ·simp only [c3,cB]
     ·simp only [c3,cA]
      unfold zav4
      rw [gdp (by omega)]
    ·rw [bT c2,bW (by
      have:¬ (zC1 e.bF.name=true∧zm4 e.bF.aN=true):=c2
      simp only [dG,cS]
      cases h1:zC1 e.bF.name <;> cases h2:zm4 e.bF.aN <;> simp_all)]
     exact ⟨_,rfl,rfl⟩
   ·simp only [c1,cK,bU,cA,Option.bind_some,dF,gI,cB,jP]
    exact ⟨_,rfl,rfl⟩
  ·rw [bT (by simpa using c),zbY5 c]
   by_cases c1:1≤e.k∧e.k≤(e.bE.length:Int)∧e.bF=aM.zero
   ·rw [bW c1,bT (by simp [c1.2.2]; omega)]
    have hF:∀ k ∈ e.bE,∀ l,(l.length:Int)+zp9 k≤(100:Nat)→got1 (zy8 n k l) (addO k l):=fun k hk l hl=>zdb7 n k (zaE3 h hk) l hl
    have key:=zA2 (body:=zW3 (zy8 n) e) e.bE aP.zero (fun i (s:List aM)=>((i:Int),s))
     (fun _ k (s:List aM)=>(zy8 n k s).bind fun v=>match v with|.inl v=>some (.inr (Sum.inr (Sum.inl s.length)))|.inr v=>if (!v.1)=true then some (.inr (Sum.inr (.inl s.length))) else some (.inl v.2)) (fun s=>Sum.inl (β:=Nat⊕(Bool×List aM)) s)
     (fun i s=>True) (fun i s hi hs=>by
      refine ⟨?_,fun s' hs'=>trivial⟩
      unfold zW3
      simp only
      rw [bW (by simpa using hi),gdp (by omega)]
      simp only [Int.toNat_natCast,zc6 i (show i < 4611686018427387904 by omega)]
      cases zy8 n (e.bE.getD i aP.zero) s with
      | none=>rfl
      | some v =>
       cases v with
       | inl v=>rfl
       | inr v =>
        simp only [Option.bind_some]
        split <;> rfl)
     (fun s hs=>by unfold zW3; simp) l trivial
    rw [show ((0,l):Int×List aM)=(fun (i:Nat) (s:List aM)=>((i:Int),s)) 0 l from rfl,key]
    have er:=zbP8 (zy8 n) (Y:=Bool×List aM) (B:=100) e.bE hF 0 l (by omega)
    cases ha:addL e.bE l with
    | none =>
     rw [ha] at er
     obtain ⟨r,er⟩:=er
     rw [er,Option.bind_some]
     exact ⟨_,rfl,trivial⟩
    | some l' =>
     rw [ha] at er
     simp only at er
     rw [er,Option.bind_some]
     rfl
   ·rw [bT c1,bW (by
     simp only [dG,bX,cS,cR]
     by_cases q:e.bF=aM.zero
     ·left; have:=mt (fun h:1≤e.k∧e.k≤(e.bE.length:Int)=>(⟨h.1,h.2,q⟩:1≤e.k∧e.k≤(e.bE.length:Int)∧e.bF=aM.zero)) c1; omega
     ·exact .inr q)]
    exact ⟨_,rfl,rfl⟩
def bad0 (r:Nat⊕(List aM×Bool)):Prop:=match r with|.inl _=>True|.inr v=>v.2=false
theorem zdm6 (e:aP) (hl:zp9 e≤50):match addO e [] with|some l=>zv1 e=some (.inr (l,true))|none=>∃ r,zv1 e=some r∧bad0 r:=by
 unfold zv1
 show match addO e [] with|some l=>zI4 _ e=some (.inr (l,true))|none=>∃ r,zI4 _ e=some r∧bad0 r
 unfold zI4
 have p4:=zL7 e.bE
 have hne:=zab8 e
 by_cases c:e.bE.length=0
 ·rw [bW (by simpa using c),zbY4 c]
  by_cases c1:e.k=0
  ·simp only [c1,cC,cB,zaB5,Option.bind_some,cU,dR,gC]
   by_cases c2:zC1 e.bF.name=true∧zaF4 e.bF.aN=true
   ·rw [bW c2,bT (by have:=c2.2; unfold zaF4 at this; simp [c2.1,this])]
    rw [zn4]
    unfold zak8
    rfl
   ·rw [bT c2,bW (by
     have:¬ (zC1 e.bF.name=true∧zm4 e.bF.aN=true):=c2
     simp only [dG,cS]
     cases h1:zC1 e.bF.name <;> cases h2:zm4 e.bF.aN <;> simp_all)]
    exact ⟨_,rfl,rfl⟩
  ·simp only [c1,cK,bU,cA,Option.bind_some,dF,gI,cB,jP]
   exact ⟨_,rfl,rfl⟩
 ·rw [bT (by simpa using c),zbY5 c]
  by_cases c1:1≤e.k∧e.k≤(e.bE.length:Int)∧e.bF=aM.zero
  ·rw [bW c1,bT (by simp [c1.2.2]; omega)]
   have hF:∀ k ∈ e.bE,∀ l,(l.length:Int)+zp9 k≤(100:Nat)→got1 (zr0 k l) (addO k l):=fun k hk l hl=>zdb7 _ k (eW _) l hl
   have key:=zA2 (body:=zS2 e) e.bE aP.zero (fun i (s:List aM)=>((i:Int),s))
    (fun _ k (s:List aM)=>(zr0 k s).bind fun v=>match v with|.inl v=>some (.inr (Sum.inr (Sum.inl s.length)))|.inr v=>if (!v.1)=true then some (.inr (Sum.inr (.inl s.length))) else some (.inl v.2)) (fun s=>Sum.inl (β:=Nat⊕(List aM×Bool)) s)
    (fun i s=>True) (fun i s hi hs=>by
     refine ⟨?_,fun s' hs'=>trivial⟩
     unfold zS2
     simp only
     rw [bW (by simpa using hi),gdp (by omega)]
     simp only [Int.toNat_natCast,zc6 i (show i < 4611686018427387904 by omega)]
     cases zr0 (e.bE.getD i aP.zero) s with
     | none=>rfl
     | some v =>
      cases v with
      | inl v=>rfl
      | inr v =>
       simp only [Option.bind_some]
       split <;> rfl)
    (fun s hs=>by unfold zS2; simp) [] trivial
   rw [show ((0,[]):Int×List aM)=(fun (i:Nat) (s:List aM)=>((i:Int),s)) 0 [] from rfl,key]
   have er:=zbP8 (zr0) (Y:=List aM×Bool) (B:=100) e.bE hF 0 [] (by simp; omega)
   cases ha:addL e.bE [] with
   | none =>
    rw [ha] at er
    obtain ⟨r,er⟩:=er
    simp only
    rw [er,Option.bind_some]
    exact ⟨_,rfl,trivial⟩
   | some l' =>
    rw [ha] at er
    simp only at er ⊢
    rw [er,Option.bind_some]
    rfl
  ·rw [bT c1,bW (by
    simp only [dG,bX,cS,cR]
    by_cases q:e.bF=aM.zero
    ·left; have:=mt (fun h:1≤e.k∧e.k≤(e.bE.length:Int)=>(⟨h.1,h.2,q⟩:1≤e.k∧e.k≤(e.bE.length:Int)∧e.bF=aM.zero)) c1; omega
    ·exact .inr q)]
   exact ⟨_,rfl,rfl⟩
def vE (e:aP):Bool:=fitE e&&(zae5 e []).isSome
theorem zcM7 (e:aP):(zae5 e []).isSome=true ↔ ∃ l,addO e []=some l∧l.length≤8∧dnN l:=by
 unfold zae5 addO
 by_cases c:okE e=true
 ·rw [bW c,bW c,zbp7 _ [] (by simp) .nil]
  constructor
  ·exact fun h=>⟨_,rfl,h⟩
  ·rintro ⟨l,e,h⟩
   cases e; exact h
 ·rw [bT c,bT c]
  simp
theorem zcp9 (v:List aM×Bool) (i:Nat) (hi:i < v.1.length) (hl:v.1.length≤1000) :
  zb9 (zS3 v (i:Int)) 0=some (if (v.1.take i).any (fun x=>(v.1.getD i aM.zero).name.toList == x.name.toList)=true then .inr ([],false) else .inl ()):=by
 have hw:∀ (t:List aM) (j:Nat),walk (fun _ x (_:Unit)=>if ((v.1.getD i aM.zero).name.toList == x.name.toList)=true then some (.inr (Sum.inr (([]:List aM),false))) else some (.inl ())) (fun _=>Sum.inl (β:=List aM×Bool) ()) t j () =
   some (if t.any (fun x=>(v.1.getD i aM.zero).name.toList == x.name.toList)=true then .inr ([],false) else .inl ()):=by
  intro t
  induction t with
  | nil=>intro j; rfl
  | cons x t ih =>
   intro j
   simp only [walk,List.any_cons]
   by_cases c:((v.1.getD i aM.zero).name.toList == x.name.toList)=true
   ·simp only [c,cB,gI]
   ·simp only [gG] at c
    simp only [c,dR,bU,cA]
    exact ih (j+1)
 have hlen:(v.1.take i).length=i:=by rw [cO]; omega
 have key:=zai2 (body:=zS3 v (i:Int)) (v.1.take i) aM.zero (fun j (_:Unit)=>(j:Int))
  (fun _ x (_:Unit)=>if ((v.1.getD i aM.zero).name.toList == x.name.toList)=true then some (.inr (Sum.inr (([]:List aM),false))) else some (.inl ())) (fun _=>Sum.inl (β:=List aM×Bool) ())
  (fun j s hj=>by
   rw [hlen] at hj
   unfold zS3
   rw [bW (by simp; omega),gdp (by omega),gdp (by omega),zc6 j (by omega),zaz1 _ _ _ _ hj]
   simp only [Int.toNat_natCast]
   split <;> rfl)
  (fun s=>by unfold zS3; rw [hlen]; simp) ()
 rw [show (0:Int)=(fun (j:Nat) (_:Unit)=>(j:Int)) 0 () from rfl,key,hw]
theorem zbf3 (v:List aM×Bool) (hl:v.1.length≤1000):(dnN v.1→zb9 (zK9 v) 0=some (.inl ()))∧(¬ dnN v.1→zb9 (zK9 v) 0=some (.inr ([],false))):=by
 have key:=zai2 (body:=zK9 v) v.1 aM.zero (fun i (_:Unit)=>(i:Int))
  (fun i a (_:Unit)=>if (v.1.take i).any (fun x=>a.name.toList == x.name.toList)=true then some (.inr (Sum.inr (([]:List aM),false))) else some (.inl ())) (fun _=>Sum.inl (β:=List aM×Bool) ())
  (fun i s hi=>by
   unfold zK9
   rw [bW (by simpa using hi),zcp9 v i hi hl]
   split
   ·rfl
   ·show some _=_
    rw [zc6 i (by omega)]; rfl)
  (fun s=>by unfold zK9; simp) ()
 have hw:∀ (t prev:List aM),v.1=prev++t→dnN prev→(dnN v.1→walk (fun i a (_:Unit)=>if (v.1.take i).any (fun x=>a.name.toList == x.name.toList)=true then some (.inr (Sum.inr (([]:List aM),false))) else some (.inl ())) (fun _=>Sum.inl (β:=List aM×Bool) ()) t prev.length ()=some (.inl ())) ∧
   (¬ dnN v.1→walk (fun i a (_:Unit)=>if (v.1.take i).any (fun x=>a.name.toList == x.name.toList)=true then some (.inr (Sum.inr (([]:List aM),false))) else some (.inl ())) (fun _=>Sum.inl (β:=List aM×Bool) ()) t prev.length ()=some (.inr ([],false))):=by
  intro t
  induction t with
  | nil=>intro prev h hd; exact ⟨fun _=>rfl,fun hn=>absurd (by rw [h,dV]; exact hd) hn⟩
  | cons a t ih =>
   intro prev h hd
   have ht:v.1.take prev.length=prev:=by rw [h,List.take_left']; rfl
   simp only [walk,ht]
   by_cases c:prev.any (fun x=>a.name.toList == x.name.toList)=true
   ·have hn:¬ dnN v.1:=by
     intro hd2
     rw [h] at hd2
     obtain ⟨x,hx,e⟩:=iR.1 c
     have:=(eH.1 hd2).2.2 x hx a (.head _)
     rw [dI] at e
     rw [← e] at this
     simp at this
    exact ⟨fun h=>absurd h hn,fun _=>by rw [bW c]⟩
   ·rw [bT c]
    have hd3:dnN (prev++[a]):=by
     unfold dnN
     rw [eH]
     refine ⟨hd,List.pairwise_singleton _ _,fun x hx y hy=>?_⟩
     rw [dL.1 hy,dU]
     intro e
     rw [dI] at e
     exact c (iR.2 ⟨x,hx,by rw [dI]; exact e.symm⟩)
    have:=ih (prev++[a]) (by rw [h]; simp) hd3
    rw [show (prev++[a]).length=prev.length+1 by simp] at this
    exact this
 have:=hw v.1 [] rfl .nil
 rw [show (0:Int)=(fun (i:Nat) (_:Unit)=>(i:Int)) 0 () from rfl,key]
 exact this
theorem zaL3 (e:aP):zC5 e=some (vE e):=by
 unfold zC5 zj8
 rw [zdb3,Option.bind_some]
 have p:=zX8 e
 unfold vE
 cases hf:fitE e with
 | false=>rfl
 | true =>
  have hn:zp9 e≤24:=by unfold fitE at hf; simp at hf; omega
  simp only [cB,show ¬ zp9 e=0 by omega,cK,bU,cA,cJ]
  have ha:=zdm6 e (by omega)
  have hp:=zcM7 e
  cases hadd:addO e [] with
  | none =>
   rw [hadd] at ha hp
   obtain ⟨r,er,hb⟩:=ha
   have hf:(zae5 e []).isSome=false:=by
    rw [dU]; intro h
    obtain ⟨l,e,_⟩:=hp.1 h
    cases e
   rw [er,hf,Option.bind_some]
   cases r with
   | inl r=>rfl
   | inr v =>
    have hv:v.2=false:=hb
    simp only [hv,dF,gI,cB,Option.bind_some]
  | some l =>
   rw [hadd] at ha hp
   simp only at ha
   have hl:l.length≤24:=by
    unfold addO at hadd
    split at hadd
    ·cases hadd
     have h1:=zcf6 (zaB9 e) []
     have h2:=zbP3 e
     simp at h1
     omega
    ·cases hadd
   rw [ha,Option.bind_some]
   by_cases c:l.length≤8
   ·simp only [cU,dR,show ¬ (8:Int) < (l.length:Int) by omega,cK,bU,cA]
    have ho:=zbf3 (l,true) (by simp only; omega)
    by_cases hd:dnN l
    ·rw [ho.1 hd,hp.2 ⟨l,rfl,c,hd⟩]
     rfl
    ·rw [ho.2 hd]
     have:(zae5 e []).isSome=false:=by
      rw [dU]; intro h
      obtain ⟨l',e',_,h3⟩:=hp.1 h
      cases e'
      exact hd h3
     rw [this]
     rfl
   ·simp only [cU,dR,show (8:Int) < (l.length:Int) by omega,cC,cB,Option.bind_some]
    have:(zae5 e []).isSome=false:=by
     rw [dU]; intro h
     obtain ⟨l',e',h3,_⟩:=hp.1 h
     cases e'
     exact c h3
    rw [this]
theorem zcy5 (e:aP):zo7 e=some (vE e):=zbf2 e
def zbl9 (l:List bI) (i:Nat) (n:bI):Bool:=zc5 n.aJ&&vE n.bP&&decide (0≤n.gen)&&decide (n.gen≤1073741824)&&(decide (i=0)||decide (cmpP (l.getD (i - 1) bI.zero).aJ n.aJ < 0))
def zaP7 (l:List bI):Bool:=(List.range l.length).all fun i=>zbl9 l i (l.getD i bI.zero)
def zaA3 (s:aL):List aK:=zaT8 (zw6 s.aC++s.aU.map (·.aJ))
def zab9 (s:aL):Bool:=zaA2 s.aC&&decide (s.aU.length≤8)&&zaP7 s.aU&&decide ((zaA3 s).length≤8)
theorem zcy6 (s:aL) (h8:s.aU.length≤8):zb9 (zF4 s) 0=some (if zaP7 s.aU=true then .inl () else .inr false):=by
 have key:=zL6 (body:=zF4 s) s.aU.length (fun i=>if zbl9 s.aU i (s.aU.getD i bI.zero)=true then none else some (Sum.inr (α:=Unit) false)) (Sum.inl ()) (fun i hi=>by
  unfold zF4
  have c1:(i:Int) < (s.aU.length:Int):=by omega
  have c2:0≤(i:Int):=by omega
  simp only [c1,c2,cX,cC,cB,zk6,zcy5,zal9,Int.toNat_natCast]
  unfold zbl9
  have nd:∀ x:bI,x=x:=fun x=>rfl
  rcases hb (zc5 (s.aU.getD i bI.zero).aJ) with hP|hP
  ·rcases hb (vE (s.aU.getD i bI.zero).bP) with hE|hE
   ·by_cases q1:(s.aU.getD i bI.zero).gen < 0
    ·simp [hP,hE,q1,show ¬ 0≤(s.aU.getD i bI.zero).gen by omega,-List.getD_eq_getElem?_getD]
    ·by_cases q2:1073741824 < (s.aU.getD i bI.zero).gen
     ·simp [hP,hE,q1,q2,show ¬ (s.aU.getD i bI.zero).gen≤1073741824 by omega,-List.getD_eq_getElem?_getD]
     ·have q1':0≤(s.aU.getD i bI.zero).gen:=by omega
      have q2':(s.aU.getD i bI.zero).gen≤1073741824:=by omega
      have w2:IntKind.i64.wrap ((i:Int)+1)=(i:Int)+1:=zi0 (by omega) (by omega)
      by_cases q3:i=0
      ·subst q3
       simp only [hP,hE,q1,q2,q1',q2',cB,Option.bind_some,cC,cK,cU,dF,gJ,cJ,fA,dR,gI,Int.cast_ofNat_Int,fC,iD,eP,bU,hY,zk6,cA]
       rfl
      ·have q4:(0:Int) < (i:Int):=by omega
       have w:IntKind.i64.wrap ((i:Int) - 1)=((i - 1:Nat):Int):=zas2 i (by omega) (by omega)
       simp only [hP,hE,q1,q2,q1',q2',q3,q4,cC,cK,cU,dF,gJ,cJ,fA,dR,jJ,bU,cB,cA,Option.bind_some,w,w2,Int.toNat_natCast]
       rw [gdp (by intro _; omega)]
       by_cases q5:cmpP (s.aU.getD (i - 1) bI.zero).aJ (s.aU.getD i bI.zero).aJ < 0
       ·have q6:¬ 0≤cmpP (s.aU.getD (i - 1) bI.zero).aJ (s.aU.getD i bI.zero).aJ:=by omega
        simp only [q5,q6,cC,cK,cB,bU,cA]
       ·have q6:0≤cmpP (s.aU.getD (i - 1) bI.zero).aJ (s.aU.getD i bI.zero).aJ:=by omega
        simp only [q5,q6,cC,cK,cB,bU,cA]
   ·simp [hP,hE,-List.getD_eq_getElem?_getD]
  ·simp [hP,-List.getD_eq_getElem?_getD])
  (by unfold zF4; simp)
 rw [key,zU1 (fun i=>zbl9 s.aU i (s.aU.getD i bI.zero))]
 unfold zaP7
 rw [eY]
 split <;> rfl
theorem zaG3 (s:aL) (h1:s.aC.length≤8) (h2:∀ q ∈ s.aC,zg7 q=true) (h8:s.aU.length≤8):zu5 s=some (zaA3 s):=by
 have hq:=zbF9 s.aC h2
 have hs:(zw6 s.aC).length≤200:=by
  have:=zbX7 (s.aC.flatMap zai8)
  unfold zw6; omega
 unfold zu5
 rw [zbO7 h1 h2,Option.bind_some,gdp (by omega),zaE2 s.aU bI.zero (·.aJ) _ (by omega) (by omega) (fun i t hi ht=>by
  unfold zN7
  have h3:0≤(i:Int)∧(i:Int) < (s.aU.length:Int):=by omega
  have h1:t.length+1≤4294967296:=by omega
  simp only [h1,h3.1,h3.2,cX,zk6,cC,cB,Int.toNat_natCast,zc6 i (show i < 4611686018427387904 by omega)]) (fun t=>by unfold zN7; simp),Option.bind_some]
 unfold zW8
 rw [zaq6 _ (by simp; omega)]; rfl
theorem zbp8 (s:aL) (hp:zaA2 s.aC=true) (h8:s.aU.length≤8):zu5 s=some (zaA3 s):=by
 obtain ⟨h1,h2,_⟩:=(zX7 _).1 hp
 exact zaG3 s h1 h2 h8
theorem zad7 (s:aL):zt6 s=some (zab9 s):=by
 unfold zt6 zab9
 by_cases h8:s.aU.length≤8
 ·by_cases hq:s.aC.length≤8
  ·simp only [show ¬ (8:Int) < (s.aU.length:Int) by omega,show ¬ (8:Int) < (s.aC.length:Int) by omega,cK,fA,bU,cA,h8,cC,fE]
   rw [zbO5 s.aC hq (fun i hi=>by
    unfold zX0
    have h3:0≤(i:Int)∧(i:Int) < (s.aC.length:Int):=by omega
    simp only [h3.1,h3.2,cX,zk6,cC,cB,Int.toNat_natCast,zbM5,Option.bind_some,zc6 i (show i < 4611686018427387904 by omega)]
    by_cases e0:i=0
    ·subst e0
     rw [zg0 (by simp)]
     cases zg7 (s.aC.getD 0 aA.zero) <;> simp
    ·rw [zas2 i (by omega) (by omega),zg0 (by intro _; omega)]
     simp only [Int.toNat_natCast,show (0:Int) < (i:Int) by omega,cC,cJ,e0,jB]
     unfold ltN
     rcases hb (zg7 (s.aC.getD i aA.zero)) with b1|b1 <;> rcases hb (Op.bytesLess (s.aC.getD (i - 1) aA.zero).aB.name.toList (s.aC.getD i aA.zero).aB.name.toList) with b2|b2 <;> simp [b1,b2,-List.getD_eq_getElem?_getD]) (by unfold zX0; simp)]
   unfold zaA2
   simp only [hq,cC,cJ]
   cases ha:ascW s.aC none with
   | false=>rfl
   | true =>
    have hp:zaA2 s.aC=true:=by unfold zaA2; simp [hq,ha]
    simp only [cB,Option.bind_some,cJ]
    unfold zW9
    rw [zcy6 s h8,Option.bind_some]
    cases zaP7 s.aU with
    | false=>rfl
    | true =>
     simp only [cB,cJ]
     unfold zah9
     rw [zbp8 s hp h8,Option.bind_some]
     congr 1
     rw [dW]; simp; omega
  ·have:zaA2 s.aC=false:=by unfold zaA2; simp [hq]
   simp only [show (8:Int) < (s.aC.length:Int) by omega,cC,gI,cB,this,eP]
 ·simp only [show (8:Int) < (s.aU.length:Int) by omega,cC,iQ,cB,h8,cK,iD,eP]
def zdb8 (nm:ByteArray) (h:aV):bJ:=⟨1,h.aJ,nm,h.aN⟩
def zam0 (nm:ByteArray) (l:List aV):List bJ:=l.map (zdb8 nm)
def zcF8 (p:aK) (nm:ByteArray) (a:aD):bJ:=⟨3,p,nm,a⟩
theorem zaC0 (nm:ByteArray) (l:List aV) (hl:l.length≤1000000):zf8 nm l=some (zam0 nm l):=by
 unfold zf8
 rw [zaE2 l aV.zero (zdb8 nm) [] hl (by simp) (fun i s hi hs=>by
  unfold zaf5
  have h3:0≤(i:Int)∧(i:Int) < (l.length:Int):=by omega
  have h1:s.length+1≤4294967296:=by omega
  simp only [h1,h3.1,h3.2,cX,eQ,zk6,cC,cB,Int.toNat_natCast,zc6 i (show i < 4611686018427387904 by omega)]
  rfl) (fun s=>by unfold zaf5; simp)]
 rfl
def zbP9 (t:List aA) (i:Int) (q:aA):List aA:=if 0≤i then t.set i.toNat q else t
def Lens (t:List aA):Prop:=∀ q ∈ t,q.aQ.length≤1000∧q.aO.length≤1000∧q.aS.length≤1000
theorem zaA4 (t:List aA) (i:Int) (q:aA) (hl:t.length≤1000) (h0:0≤i) (hi:i < t.length):zf2 t i q=some (zbP9 t i q):=by
 unfold zf2 zbP9
 rw [zg0 (by omega),zg0 (by omega),bW h0]
theorem ValidT.lens {t:List aA} (h:ValidT t):Lens t:=fun q hq=>by
 have:=zad6 (h.each q hq)
 omega
abbrev ResT:=List aA×List bJ×Int
def errT (e:Int):ResT:=([],[],e)
def putT (t:List aA) (nm:ByteArray) (x:aA×List aV×Int) (ev:List bJ):ResT:=if x.2.2=0 then (zbP9 t (zw2 t nm) x.1,ev++zam0 nm x.2.1,0) else errT x.2.2
def atT (t:List aA) (nm:ByteArray) (f:aA→ResT):ResT:=if zaF3 t=false then errT 2 else if zw2 t nm < 0 then errT 10 else f (t.getD (zw2 t nm).toNat aA.zero)
def zbf4 (t:List aA) (p:aK):Bool:=decide (8≤(zw6 t).length)&&!decide (p ∈ zw6 t)
def zaX4 (t:List aA) (p:aK) (a:aM) (pr:Int):ResT:=atT t a.name fun q=>if zbf4 t p=true then errT 4 else putT t a.name (zw4 q p a.aN pr) []
def zaH0 (t:List aA) (p:aK) (nm:ByteArray):ResT:=atT t nm fun q=>putT t nm (zC6 q p) []
def zaA5 (t:List aA) (p:aK) (a:aM):ResT:=atT t a.name fun q=>putT t a.name (zD9 q p a.aN) (if getH q.aQ p=a.aN then [] else [zcF8 p a.name a.aN])
theorem nd0 {P:Prop} [Decidable P] (h:P):¬ ((!decide P)=true):=by simp [h]
theorem nd1 {P:Prop} [Decidable P] (h:¬ P):(!decide P)=true:=by simp [h]
theorem zaX5 {t:List aA} {nm:ByteArray} (h:¬ zw2 t nm < 0):0≤zw2 t nm∧zw2 t nm < t.length:=by
 rcases zaE1 (t:=t) (nm:=nm) with h1|⟨i,h1,h2,_⟩
 ·omega
 ·omega
theorem zcf7 {t:List aA} (h:ValidT t) {nm:ByteArray} (hf:¬ zw2 t nm < 0):zg7 (t.getD (zw2 t nm).toNat aA.zero)=true:=by
 have:=zaX5 hf
 exact h.each _ (zd1 (by omega))
theorem zbQ0 (t:List aA) (p:aK) (a:aM) (pr:Int):zX3 t p a pr=some (zaX4 t p a pr):=by
 unfold zX3 zaX4 atT
 rw [zai9,Option.bind_some]
 cases hv:zaF3 t with
 | false=>rfl
 | true =>
  have h:=(zU4 t).1 hv
  have hl:=h.len
  have hpl:=h.aF
  rw [ifNT,ifTF,zS0 _ _ (by omega),Option.bind_some]
  by_cases hf:zw2 t a.name < 0
  ·rw [bW (cF hf),bW hf]; rfl
  ·have hr:=zaX5 hf
   have hsh:=zbt2 (t.getD (zw2 t a.name).toNat aA.zero) p a.aN pr
   rw [bT (by rw [bX]; exact hf),bT hf,zaK9 hl h.each,Option.bind_some,zaU0 _ _ (by omega)]
   have e8:decide (((zw6 t).length:Int)=8)=decide (8≤(zw6 t).length):=by rw [iO]; omega
   rw [e8]
   have hfu:zbf4 t p=(decide (8≤(zw6 t).length)&&!decide (p ∈ zw6 t)):=rfl
   have hb2:((if decide (8≤(zw6 t).length)=true then some (decide (p ∈ zw6 t)) else some false):Option Bool).bind (fun v4=>if (decide (8≤(zw6 t).length)&&!v4)=true then some (([],[],4):ResT) else gd (0≤zw2 t a.name∧zw2 t a.name < (t.length:Int)) <| (zG1 (t.getD (zw2 t a.name).toNat aA.zero) p a.aN pr).bind fun v5=>if (!decide (v5.2.2=0))=true then some (([],[],v5.2.2):ResT) else (zf2 t (zw2 t a.name) v5.1).bind fun v6=>(zf8 a.name v5.2.1).bind fun v7=>some ((v6,v7,0):ResT)) =
     if zbf4 t p=true then some (errT 4) else gd (0≤zw2 t a.name∧zw2 t a.name < (t.length:Int)) <| (zG1 (t.getD (zw2 t a.name).toNat aA.zero) p a.aN pr).bind fun v5=>if (!decide (v5.2.2=0))=true then some (([],[],v5.2.2):ResT) else (zf2 t (zw2 t a.name) v5.1).bind fun v6=>(zf8 a.name v5.2.1).bind fun v7=>some ((v6,v7,0):ResT):=by
    rw [hfu]
    by_cases h8:8≤(zw6 t).length
    ·simp only [h8,cC,cB,Option.bind_some,cJ]; rfl
    ·simp only [h8,cK,bU,cA,Option.bind_some,eP]
   refine Eq.trans hb2 ?_
   cases hfu2:zbf4 t p with
   | true=>rfl
   | false =>
    rw [ifFT,zg0 (by omega),zbO0,Option.bind_some]
    unfold putT
    simp only [bU,cA]
    by_cases e:(zw4 (t.getD (zw2 t a.name).toNat aA.zero) p a.aN pr).2.2=0
    ·rw [bT (nd0 e),bW e,zaA4 _ _ _ (by omega) (by omega) (by omega),Option.bind_some,zaC0 _ _ (by have:=hsh.2.2.2; omega)]; rfl
    ·rw [bW (nd1 e),bT e]; rfl
theorem zbE1 (t:List aA) (p:aK) (nm:ByteArray):zT5 t p nm=some (zaH0 t p nm):=by
 unfold zT5 zaH0 atT
 rw [zai9,Option.bind_some]
 cases hv:zaF3 t with
 | false=>rfl
 | true =>
  have h:=(zU4 t).1 hv
  have hl:=h.len
  rw [ifNT,ifTF,zS0 _ _ (by omega),Option.bind_some]
  by_cases hf:zw2 t nm < 0
  ·rw [bW (cF hf),bW hf]; rfl
  ·have hr:=zaX5 hf
   have hsh:=zbl6 (t.getD (zw2 t nm).toNat aA.zero) p
   rw [bT (by rw [bX]; exact hf),bT hf,zg0 (by omega),zbD9,Option.bind_some]
   unfold putT
   dsimp only
   by_cases e:(zC6 (t.getD (zw2 t nm).toNat aA.zero) p).2.2=0
   ·rw [bT (nd0 e),bW e,zaA4 _ _ _ (by omega) (by omega) (by omega),Option.bind_some,zaC0 _ _ (by have:=hsh.2.2.2; omega)]; rfl
   ·rw [bW (nd1 e),bT e]; rfl
theorem zaL4 (t:List aA) (p:aK) (a:aM):zG0 t p a=some (zaA5 t p a):=by
 unfold zG0 zaA5 atT
 rw [zai9,Option.bind_some]
 cases hv:zaF3 t with
 | false=>rfl
 | true =>
  have h:=(zU4 t).1 hv
  have hl:=h.len
  rw [ifNT,ifTF,zS0 _ _ (by omega),Option.bind_some]
  by_cases hf:zw2 t a.name < 0
  ·rw [bW (cF hf),bW hf]; rfl
  ·have hr:=zaX5 hf
   have hs:=zcf7 h hf
   have hql:=zad6 hs
   have hsh:=zbt3 (t.getD (zw2 t a.name).toNat aA.zero) p a.aN
   rw [bT (by rw [bX]; exact hf),bT hf,zg0 (by omega),zD7 _ _ (by omega),Option.bind_some,zg0 (by omega),zbO1,Option.bind_some]
   unfold putT
   have k1:∀ ev:List bJ,ev.length≤1→(zD9 (t.getD (zw2 t a.name).toNat aA.zero) p a.aN).2.2=0→zS6 t a (zw2 t a.name) (zD9 (t.getD (zw2 t a.name).toNat aA.zero) p a.aN) ev=some (zbP9 t (zw2 t a.name) (zD9 (t.getD (zw2 t a.name).toNat aA.zero) p a.aN).1,ev++zam0 a.name (zD9 (t.getD (zw2 t a.name).toNat aA.zero) p a.aN).2.1,0):=fun ev hev e=>by
    unfold zS6
    have hg:(zam0 a.name (zD9 (t.getD (zw2 t a.name).toNat aA.zero) p a.aN).2.1).length≤16:=by unfold zam0; rw [dD]; exact hsh.2.2.2
    rw [zaA4 _ _ _ (by omega) (by omega) (by omega),Option.bind_some,zaC0 _ _ (by have:=hsh.2.2.2; omega),Option.bind_some,zg0 (by omega)]
   dsimp only
   by_cases e:(zD9 (t.getD (zw2 t a.name).toNat aA.zero) p a.aN).2.2=0
   ·rw [bT (nd0 e),bW e]
    by_cases e2:getH (t.getD (zw2 t a.name).toNat aA.zero).aQ p=a.aN
    ·rw [bT (nd0 e2),bW e2,k1 [] (by simp) e]
    ·rw [bW (nd1 e2),bT e2,zg0 (by decide),k1 _ (by simp) e]; rfl
   ·rw [bW (nd1 e),bT e]; rfl
def ascR:List aI→Option ByteArray→Bool
 | [],_=>true
 | r :: l,pv=>resV r&&((match pv with|none=>true|some n=>decide (ltN n r.name))&&ascR l (some r.name))
theorem zcq0:∀ (l:List aI) (pv:Option ByteArray),ascR l pv=true ↔ (∀ r ∈ l,resV r=true)∧l.Pairwise (fun a b=>ltN a.name b.name)∧∀ n,pv=some n→∀ r ∈ l,ltN n r.name
 | [],pv=>by
  simp only [ascR,gS,hY,eQ,jZ,gC,true_iff]
  exact .nil
 | q :: t,pv=>by
  simp only [ascR,bS]
  rw [zcq0 t (some q.name)]
  constructor
  ·rintro ⟨h1,h2,h3,h4,h5⟩
   refine ⟨fun x hx=>?_,cP.2 ⟨fun x hx=>h5 _ rfl x hx,h4⟩,fun n hn x hx=>?_⟩
   ·rcases cE.1 hx with rfl|hx
    ·exact h1
    ·exact h3 x hx
   ·subst hn
    simp only [bX] at h2
    rcases cE.1 hx with rfl|hx
    ·exact h2
    ·exact zaU1 h2 (h5 _ rfl x hx)
  ·rintro ⟨h1,h2,h3⟩
   have h2':=cP.1 h2
   refine ⟨h1 q (.head _),?_,fun x hx=>h1 x (.tail _ hx),h2'.2,fun n hn x hx=>by cases hn; exact h2'.1 x hx⟩
   cases pv with
   | none=>rfl
   | some n=>exact cF (h3 n rfl q (.head _))
def catV (l:List aI):Bool:=decide (l.length≤8)&&ascR l none
theorem zbf5 (l:List aI):catV l=true ↔ l.length≤8∧(∀ r ∈ l,resV r=true)∧l.Pairwise (fun a b=>ltN a.name b.name):=by
 unfold catV
 rw [bS,bX,zcq0]
 simp
theorem zcM8 (t0:List aI):∀ (t prev:List aI),t0=prev++t →
  walk (fun i q (_:Unit)=>some (if resV q=true∧(i=0∨ltN (t0.getD (i - 1) aI.zero).name q.name) then Sum.inl () else Sum.inr (Sum.inr (α:=Unit) false))) (fun _=>Sum.inl (β:=Bool) ()) t prev.length () =
   some (if ascR t (prev.getLast?.map (·.name))=true then .inl () else .inr false):=by
 intro t
 induction t with
 | nil=>intro prev _; simp [walk,ascR]
 | cons q t ih =>
  intro prev ht
  simp only [walk]
  have hq:(prev.length=0∨ltN (t0.getD (prev.length - 1) aI.zero).name q.name) ↔ (match prev.getLast?.map (·.name) with|none=>true|some n=>decide (ltN n q.name))=true:=by
   by_cases hp:prev=[]
   ·subst hp; simp
   ·have h1:=zbY0 prev (q :: t) aI.zero hp
    rw [ht,h1,jK hp]
    have:prev.length≠0:=fun e=>hp (cW e)
    simp [this]
  by_cases e:resV q=true∧(prev.length=0∨ltN (t0.getD (prev.length - 1) aI.zero).name q.name)
  ·rw [bW e]
   have:=ih (prev++[q]) (by rw [ht]; simp)
   rw [show (prev++[q]).length=prev.length+1 by simp] at this
   simp only
   have h2:ascR (q :: t) (prev.getLast?.map (·.name))=ascR t (some q.name):=by simp only [ascR,e.1,hq.1 e.2,cJ]
   rw [this,h2]
   simp
  ·rw [bT e]
   rw [hq] at e
   have hf:ascR (q :: t) (prev.getLast?.map (·.name))=false:=by
    rw [dU]
    intro hh
    simp only [ascR,bS] at hh
    exact e ⟨hh.1,hh.2.1⟩
   rw [hf]; rfl
theorem zdb9 {body:Int→Option (Int⊕(Unit⊕Bool))} (t:List aI) (hl:t.length≤8)
  (hb:∀ i:Nat,i < t.length→body (i:Int)=some (if resV (t.getD i aI.zero)=true∧(i=0∨ltN (t.getD (i - 1) aI.zero).name (t.getD i aI.zero).name) then .inl ((i+1:Nat):Int) else .inr (.inr false)))
  (he:body (t.length:Int)=some (.inr (.inl ()))):zb9 body 0=some (if ascR t none=true then .inl () else .inr false):=by
 have key:=zai2 (body:=body) t aI.zero (fun i (_:Unit)=>(i:Int)) (fun i q _=>some (if resV q=true∧(i=0∨ltN (t.getD (i - 1) aI.zero).name q.name) then Sum.inl () else Sum.inr (Sum.inr (α:=Unit) false))) (fun _=>Sum.inl (β:=Bool) ())
  (fun i s hi=>by
   rw [hb i hi,Option.map_some]
   split <;> rfl) (fun s=>he) ()
 have:=zcM8 t t [] rfl
 rw [show (0:Int)=(fun (i:Nat) (_:Unit)=>(i:Int)) 0 () from rfl,key]
 exact this
theorem zbf6 (t:List aI):zw3 t=some (catV t):=by
 unfold zw3 catV
 by_cases h8:8 < t.length
 ·have:¬ t.length≤8:=by omega
  rw [bW (by simp; omega)]
  simp [this]
 ·have hl:t.length≤8:=by omega
  rw [bT (by simp; omega),zdb9 t hl (fun i hi=>by
   unfold zak9
   have h3:0≤(i:Int)∧(i:Int) < (t.length:Int):=by omega
   simp only [h3.1,h3.2,cX,eQ,zk6,cC,cB,Int.toNat_natCast,zbs6,Option.bind_some,zc6 i (by omega)]
   by_cases e0:i=0
   ·subst e0
    rw [zg0 (by simp)]
    cases resV (t.getD 0 aI.zero) <;> simp
   ·rw [zas2 i (by omega) (by omega),zg0 (by intro _; omega)]
    simp only [Int.toNat_natCast,show (0:Int) < (i:Int) by omega,cC,cJ,e0,jB]
    unfold ltN
    rcases hb (resV (t.getD i aI.zero)) with b1|b1 <;> rcases hb (Op.bytesLess (t.getD (i - 1) aI.zero).name.toList (t.getD i aI.zero).name.toList) with b2|b2 <;> simp [b1,b2,-List.getD_eq_getElem?_getD]) (by unfold zak9; simp)]
  simp only [hl,cC,cJ]
  cases hw:ascR t none <;> rfl
def newT (l:List aI):List aA×Int:=if catV l=true then (l.map zan0,0) else ([],1)
theorem zcf8 (l:List aI):zN5 l=some (newT l):=by
 unfold zN5 newT
 rw [zbf6,Option.bind_some]
 cases h:catV l with
 | false=>rfl
 | true =>
  have hl:=((zbf5 l).1 h).1
  rw [ifNT,zaE2 l aI.zero zan0 [] (by omega) (by simp) (fun i s hi hs=>by
   unfold zav6
   have h3:0≤(i:Int)∧(i:Int) < (l.length:Int):=by omega
   have h1:s.length+1≤4294967296:=by omega
   simp only [h1,h3.1,h3.2,cX,zk6,cC,cB,Int.toNat_natCast,zc6 i (show i < 4611686018427387904 by omega)]
   rfl) (fun s=>by unfold zav6; simp)]
  rfl
theorem zaC1 {α:Type} (l:List α) (i:Nat) (z:α) (h:i < l.length):l.set i (l.getD i z)=l:=by
 rw [bV,bY h,Option.getD_some,jG]
theorem zdc0 {body:Int×List aA×List bJ→Option ((Int×List aA×List bJ)⊕(List aA×List bJ))} (t:List aA) (f:aA→aA) (e:aA→List bJ) (hl:t.length≤1000) (he:∀ q ∈ t,(e q).length≤100)
  (hb:∀ (i:Nat) (s:List aA) (ev:List bJ),i < t.length→s.length=t.length→s.getD i aA.zero=t.getD i aA.zero→ev.length≤100000→body ((i:Int),s,ev)=some (.inl (((i+1:Nat):Int),s.set i (f (t.getD i aA.zero)),ev++e (t.getD i aA.zero))))
  (hend:∀ (s:List aA) (ev:List bJ),s.length=t.length→body ((t.length:Int),s,ev)=some (.inr (s,ev))):zb9 body (0,t,[])=some (t.map f,t.flatMap e):=by
 have hev:∀ i,i≤t.length→((t.take i).flatMap e).length≤100 * i:=by
  intro i
  induction i with
  | zero=>intro _; simp
  | succ i ih =>
   intro hi
   rw [zbX8 (z:=aA.zero) (by omega),List.flatMap_append,bZ]
   have:=ih (by omega)
   have h2:=he _ (zd1 (z:=aA.zero) (show i < t.length by omega))
   simp only [jE,List.flatMap_nil,dV]
   omega
 obtain ⟨x,hx,hp⟩:=zq4 (body:=body) (fun g=>∃ i:Nat,i≤t.length∧g=((i:Int),(t.take i).map f++t.drop i,(t.take i).flatMap e)) (fun g=>t.length - g.1.toNat) (fun x=>x=(t.map f,t.flatMap e)) (by
  rintro g ⟨i,hi,rfl⟩
  have hsl:((t.take i).map f++t.drop i).length=t.length:=by rw [bZ,dD,cO,eE]; omega
  by_cases hlt:i < t.length
  ·left
   have hml:((t.take i).map f).length=i:=by rw [dD,cO]; omega
   have hd:t.drop i=t.getD i aA.zero :: t.drop (i+1):=by rw [gA hlt,bV,bY hlt]; rfl
   have hg:((t.take i).map f++t.drop i).getD i aA.zero=t.getD i aA.zero:=by
    rw [bV,fB (by omega),hml,gH,hd]; rfl
   refine ⟨_,hb i _ _ hlt hsl hg (by have:=hev i hi; omega),⟨i+1,by omega,?_⟩,by simp only [Int.toNat_natCast]; omega⟩
   rw [zbX8 (z:=aA.zero) hlt,eU,List.flatMap_append]
   congr 2
   ·rw [gE _ _ (by omega),hml,gH,hd]
    simp
   ·simp
  ·right
   have:i=t.length:=by omega
   subst this
   refine ⟨_,hend _ _ hsl,?_⟩
   simp) (0,t,[]) ⟨0,by omega,by simp⟩
 rw [hx,hp]
def remE (p:aK) (q:aA):List bJ:=if (zE4 q p).2.2=0 then (if getH q.aQ p=aD.zero then [] else [zcF8 p q.aB.name aD.zero])++zam0 q.aB.name (zE4 q p).2.1 else []
def remT (t:List aA) (p:aK):List aA×List bJ:=if zaF3 t=true then (t.map (remN · p),t.flatMap (remE p)) else ([],[])
theorem zaE4 (nm:ByteArray) (l:List aV):(zam0 nm l).length=l.length:=by unfold zam0; rw [dD]
theorem zcq1 (p:aK) (q:aA):(remE p q).length≤17:=by
 unfold remE
 have:=(zbl7 q p).2.2.2
 split
 ·rw [bZ,zaE4]
  split <;> simp <;> omega
 ·simp
theorem zbQ1 {q:aA} (h:zg7 q=true) (p:aK):(remN q p).aB=q.aB :=
 (zbC0 h (p:=p) (x:={ p with num:=p.num+1 }) fun e=>by
  have h1:p.num+1=p.num:=cQ aK.num e
  omega).2
theorem zbE2 (t:List aA) (p:aK):zN6 t p=some (remT t p):=by
 unfold zN6 remT
 rw [zai9,Option.bind_some]
 cases hv:zaF3 t with
 | false=>rfl
 | true =>
  have h:=(zU4 t).1 hv
  have hl:=h.len
  rw [ifNT,bW rfl,zg0 (by omega),zdc0 t (remN · p) (remE p) (by omega) (fun q _=>by have:=zcq1 p q; omega) (fun i s ev hi hs hg hev=>by
   have hq:=h.each _ (zd1 (z:=aA.zero) hi)
   have hql:=zad6 hq
   have hsh:=(zbl7 (t.getD i aA.zero) p).2.2.2
   have h4:0≤(i:Int)∧(i:Int) < ((s.length:Nat):Int):=by omega
   have hn:=zbQ1 hq p
   unfold zW7
   simp only [Int.toNat_natCast,hg]
   rw [bW (cF h4.2),zg0 h4,zbt1 _ _ (by omega) (by omega) (by omega),Option.bind_some]
   cases hp:hasQ (t.getD i aA.zero) p with
   | false =>
    have e:=zaP6 hq hp
    have e1:(zE4 (t.getD i aA.zero) p).2.2≠0:=by rw [e]; decide
    unfold remE remN
    rw [bT e1,bT e1,bW (show (!false)=true from rfl),zc6 i (by omega),dV,← hg,zaC1 _ _ _ (by omega)]
   | true =>
    have e:=zcp2 hq hp
    rw [ifNT,zg0 h4,zD7 _ _ (by omega),Option.bind_some]
    have hz:zk7 (getH (t.getD i aA.zero).aQ p)=decide (getH (t.getD i aA.zero).aQ p=aD.zero):=rfl
    rw [hz]
    unfold remE
    rw [bW e.1]
    have k2:∀ ev':List bJ,ev'.length≤1000000→zW6 p ((i:Int),s,ev) ev'=some (.inl (((i+1:Nat):Int),s.set i (remN (t.getD i aA.zero) p),ev'++zam0 (t.getD i aA.zero).aB.name (zE4 (t.getD i aA.zero) p).2.1)):=fun ev' hev'=>by
     unfold zW6
     simp only [Int.toNat_natCast,hg]
     rw [zg0 h4,zbE0,Option.bind_some,zg0 h4,e.2,hn,zaC0 _ _ (by omega),Option.bind_some,zg0 (by rw [zaE4]; omega),zc6 i (by omega)]
    by_cases e2:getH (t.getD i aA.zero).aQ p=aD.zero
    ·rw [bT (nd0 e2),bW e2,k2 _ (by omega),List.nil_append]
    ·rw [bW (nd1 e2),bT e2,zg0 h4,zg0 (by omega),k2 _ (by simp; omega),dB]
     rfl) (fun s ev hs=>by
   unfold zW7
   simp only
   rw [bT (by rw [bX,hs]; omega)])]
  rfl
theorem zH9 {t:List aA} (h:∀ q ∈ t,zg7 q=true) {p:aK}:p ∈ zw6 t ↔ ∃ q ∈ t,hasQ q p=true:=by
 unfold zw6
 rw [zae8,fM]
 constructor
 ·rintro ⟨q,hq,hp⟩; exact ⟨q,hq,(zbN9 ((zr8 q).1 (h q hq)).1).1 hp⟩
 ·rintro ⟨q,hq,hp⟩; exact ⟨q,hq,(zbN9 ((zr8 q).1 (h q hq)).1).2 hp⟩
theorem zaH1 (t:List aA):(zw6 t).Nodup:=zaT9 (zaA1 _)
theorem ValidT.map {t:List aA} (h:ValidT t) (f:aA→aA) (h1:∀ q ∈ t,zg7 (f q)=true) (h2:∀ q ∈ t,(f q).aB=q.aB) (h3:∀ q ∈ t,∀ p,hasQ (f q) p=true→hasQ q p=true):ValidT (t.map f):=by
 have he:∀ q ∈ t.map f,zg7 q=true:=fun q hq=>by
  obtain ⟨x,hx,rfl⟩:=cH.1 hq
  exact h1 x hx
 refine ⟨by rw [dD]; exact h.len,he,?_,?_⟩
 ·have:=h.asc
  unfold AscN at *
  rw [gO]
  exact this.imp_of_mem fun {a b} ha hb hab=>by rw [h2 a ha,h2 b hb]; exact hab
 ·refine dX (dM (zaH1 _) fun x hx=>?_) h.aF
  obtain ⟨q,hq,hp⟩:=(zH9 he).1 hx
  obtain ⟨y,hy,rfl⟩:=cH.1 hq
  exact (zH9 h.each).2 ⟨y,hy,h3 y hy x hp⟩
theorem zbG1 {t:List aA} (h:ValidT t) (p:aK):remT t p=(t.map (remN · p),t.flatMap (remE p)):=by
 unfold remT; rw [bW ((zU4 t).2 h)]
theorem zcy7 {t:List aA} (h:ValidT t) (p:aK):ValidT (remT t p).1:=by
 rw [zbG1 h]
 exact h.map _ (fun q hq=>zce7 (h.each q hq) p) (fun q hq=>zbQ1 (h.each q hq) p) fun q hq x hx=>((zco5 (h.each q hq) p x).1 hx).1
theorem zdm7 {t:List aA} (h:ValidT t) (p:aK):(remT t p).2.length≤136:=by
 rw [zbG1 h]
 have:∀ l:List aA,(l.flatMap (remE p)).length≤17 * l.length:=by
  intro l
  induction l with
  | nil=>simp
  | cons q l ih=>rw [jE,bZ,List.length_cons]; have:=zcq1 p q; omega
 have h1:=this t
 have h2:=h.len
 show (t.flatMap (remE p)).length≤136
 omega
theorem zbQ2 {q:aA} (hs:SoundP q) {w:aT} (hw:w ∈ ordQ q):zc5 w.aJ=true∧za4 q.aB w.aN=true∧(zu0 w.aJ q.aQ).length+1≤8:=by
 have hvh:=(zQ0 _ _).1 hs.hv
 rcases cI.1 hw with h|h
 ·obtain ⟨h1,h2,_⟩:=hs.cg w h
  refine ⟨(hvh.2.2.1.each _ (zaK4 h1)).1,h2,?_⟩
  have:=zbx8 (zaT5 hs.hv) h1
  omega
 ·have h1:=hs.wg w h
  have h2:=((zaq5 _).1 hs.wv).2.1 w h
  refine ⟨?_,h1.1,?_⟩
  ·rw [← zaG8] at h2
   unfold zy1 at h2
   rw [zaK0] at h2
   simp only [bS] at h2
   exact h2.1.1.1.1.1
  ·have:=hs.wl
   have h3:=zaJ9 w.aJ q.aQ
   have:0 < q.aS.length:=List.length_pos_of_mem h
   omega
inductive StepQ (q:aA):aA→Prop where
 | same:StepQ q q
 | claim (p:aK) (a:aD) (pr:Int) (h:(zw4 q p a pr).2.2=0):StepQ q (zw4 q p a pr).1
 | cancel (p:aK) (h:(zC6 q p).2.2=0):StepQ q (zC6 q p).1
 | lower (p:aK) (a:aD) (h:(zD9 q p a).2.2=0):StepQ q (zD9 q p a).1
 | remove (p:aK) (h:(zE4 q p).2.2=0):StepQ q (zE4 q p).1
theorem zam1 {q x:aA} (h:zg7 q=true) (hx:StepQ q x):zg7 x=true∧x.aB=q.aB:=by
 have hr:∀ y:aA,(zD8 y).1.aB=y.aB:=fun y=>(zcF2 y).2
 cases hx with
 | same=>exact ⟨h,rfl⟩
 | claim p a pr h0 =>
  obtain ⟨_,_,_,_,_,hh⟩:=zaT7 h0
  rcases hh with ⟨_,e⟩|⟨_,_,e,hs⟩|⟨_,_,_,e,hs⟩
  ·rw [e]; exact ⟨h,rfl⟩
  ·rw [e,hr]; exact ⟨zV8 hs,rfl⟩
  ·rw [e,hr]; exact ⟨zV8 hs,rfl⟩
 | cancel p h0=>obtain ⟨_,_,_,e,hs⟩:=zaz7 h0; rw [e,hr]; exact ⟨zV8 hs,rfl⟩
 | lower p a h0 =>
  obtain ⟨_,_,_,_,_,hh⟩:=zaH8 h0
  rcases hh with ⟨_,e⟩|⟨_,e,hs⟩
  ·rw [e]; exact ⟨h,rfl⟩
  ·rw [e,hr]; exact ⟨zV8 hs,rfl⟩
 | remove p h0=>obtain ⟨_,_,_,e,hs⟩:=zaX1 h0; rw [e,hr]; exact ⟨zV8 hs,rfl⟩
theorem zaO2 (q:aA) (x:aK):hasQ (zD8 q).1 x=hasQ q x:=by rw [zE5,zcF5,zcF4]
theorem zcM9 {q:aA} {p:aK} {a:aD} {pr:Int} (h:(zw4 q p a pr).2.2=0) {x:aK} (hx:hasQ (zw4 q p a pr).1 x=true):hasQ q x=true∨x=p:=by
 obtain ⟨_,_,_,_,_,hh⟩:=zaT7 h
 rcases hh with ⟨_,e⟩|⟨_,_,e,_⟩|⟨_,_,_,e,_⟩
 ·rw [e] at hx; exact .inl hx
 ·rw [e,zaO2,zz0] at hx
  rcases hx with ⟨w,hw,ew⟩|hx
  ·unfold ordQ claimC at hw
   simp only [cI,dL] at hw
   rcases hw with (hw|hw)|hw
   ·exact .inl ((zz0 q x).2 (.inl ⟨w,dE _ hw,ew⟩))
   ·rw [hw] at ew; exact .inr ew.symm
   ·exact .inl ((zz0 q x).2 (.inl ⟨w,cV _ hw,ew⟩))
  ·exact .inl ((zz0 q x).2 (.inr hx))
 ·rw [e,zaO2,zz0] at hx
  rcases hx with ⟨w,hw,ew⟩|hx
  ·unfold ordQ claimW zaT2 at hw
   simp only [cI,cE,cH] at hw
   rcases hw with hw|hw|hw|⟨y,hy,rfl⟩
   ·exact .inl ((zz0 q x).2 (.inl ⟨w,dE _ hw,ew⟩))
   ·exact .inl ((zz0 q x).2 (.inl ⟨w,cV _ (fJ hw),ew⟩))
   ·rw [hw] at ew; exact .inr ew.symm
   ·exact .inl ((zz0 q x).2 (.inl ⟨y,cV _ (gM hy),ew⟩))
  ·exact .inl ((zz0 q x).2 (.inr hx))
theorem zcy8 {q:aA} {p:aK} (h:(zC6 q p).2.2=0) {x:aK} (hx:hasQ (zC6 q p).1 x=true):hasQ q x=true:=by
 obtain ⟨_,_,_,e,_⟩:=zaz7 h
 rw [e,zaO2,zz0] at hx
 rcases hx with ⟨w,hw,ew⟩|hx
 ·unfold ordQ zaw4 at hw
  simp only [cI,zaG9] at hw
  rcases hw with hw|hw
  ·exact (zz0 q x).2 (.inl ⟨w,dE _ hw.1,ew⟩)
  ·exact (zz0 q x).2 (.inl ⟨w,cV _ hw.1,ew⟩)
 ·exact (zz0 q x).2 (.inr hx)
theorem zcN0 {q:aA} {p:aK} {a:aD} (h:(zD9 q p a).2.2=0) {x:aK} (hx:hasQ (zD9 q p a).1 x=true):hasQ q x=true:=by
 obtain ⟨_,_,hp,_,_,hh⟩:=zaH8 h
 rcases hh with ⟨_,e⟩|⟨_,e,_⟩
 ·rw [e] at hx; exact hx
 ·rw [e,zaO2,zz0] at hx
  rcases hx with hx|hx
  ·exact (zz0 q x).2 (.inl hx)
  ·refine (zz0 q x).2 (.inr ?_)
   by_cases e:x=p
   ·rw [e]; exact hp
   ·unfold zaz6 at hx
    rwa [zE3 e] at hx
theorem ValidT.set {t:List aA} (h:ValidT t) {i:Nat} (hi:i < t.length) {q:aA} (p:aK) (h1:zg7 q=true) (h2:q.aB=(t.getD i aA.zero).aB) (h3:∀ x,hasQ q x=true→x ∈ zw6 t∨x=p)
  (h4:zbf4 t p=false):ValidT (t.set i q):=by
 have he:∀ y ∈ t.set i q,zg7 y=true:=fun y hy=>by
  rcases hI hy with hy|rfl
  ·exact h.each y hy
  ·exact h1
 refine ⟨by rw [dQ]; exact h.len,he,?_,?_⟩
 ·have ha:=h.asc
  unfold AscN at *
  rw [dO] at ha ⊢
  have hr:∀ k (hk:k < (t.set i q).length),((t.set i q)[k]).aB=(t[k]'(by rw [dQ] at hk; exact hk)).aB:=fun k hk=>by
   rw [List.getElem_set]
   split
   ·next e=>subst e; rw [h2,bV,bY hi]; rfl
   ·rfl
  intro a b hla hlb hab
  rw [hr a hla,hr b hlb]
  exact ha a b _ _ hab
 ·have hsub:∀ x ∈ zw6 (t.set i q),x ∈ zw6 t∨x=p:=fun x hx=>by
   obtain ⟨y,hy,hp⟩:=(zH9 he).1 hx
   rcases hI hy with hy|rfl
   ·exact .inl ((zH9 h.each).2 ⟨y,hy,hp⟩)
   ·exact h3 x hp
  have hpl:=h.aF
  by_cases hp:p ∈ zw6 t
  ·refine dX (dM (zaH1 _) (l₂:=zw6 t) fun x hx=>?_) hpl
   rcases hsub x hx with hx|rfl
   ·exact hx
   ·exact hp
  ·have h5:(zw6 t).length < 8:=by
    unfold zbf4 at h4
    simp only [hp,cK,dF,fE,cR] at h4
    omega
   have:=dM (zaH1 (t.set i q)) (l₂:=p :: zw6 t) fun x hx=>by
    rcases hsub x hx with hx|rfl
    ·exact .tail _ hx
    ·exact .head _
   rw [List.length_cons] at this
   omega
theorem zaw6 {t:List aA} (h:ValidT t) {i:Nat} (hi:i < t.length) {x:aK} (hx:hasQ (t.getD i aA.zero) x=true):x ∈ zw6 t:=(zH9 h.each).2 ⟨_,zd1 hi,hx⟩
theorem zcf9 {t:List aA} {p:aK} (h:p ∈ zw6 t):zbf4 t p=false:=by unfold zbf4; simp [h]
theorem zdc1 {t:List aA} {nm:ByteArray} {f:aA→ResT} (h:(atT t nm f).2.2=0):ValidT t∧∃ i:Nat,zw2 t nm=i∧i < t.length∧(t.getD i aA.zero).aB.name=nm∧atT t nm f=f (t.getD i aA.zero):=by
 unfold atT at h ⊢
 cases hv:zaF3 t with
 | false=>rw [hv,bW rfl] at h; exact absurd h (by decide)
 | true =>
  rw [hv,bT (by decide)] at h
  rw [bT (by decide)]
  by_cases hf:zw2 t nm < 0
  ·rw [bW hf] at h; exact absurd h (by decide)
  ·rw [bT hf]
   rcases zaE1 (t:=t) (nm:=nm) with h1|⟨i,h1,h2,h3⟩
   ·omega
   ·exact ⟨(zU4 t).1 hv,i,h1,h2,h3,by rw [h1]; rfl⟩
theorem zcy9 {t:List aA} {nm:ByteArray} {x:aA×List aV×Int} {ev:List bJ} (h:(putT t nm x ev).2.2=0):x.2.2=0∧putT t nm x ev=(zbP9 t (zw2 t nm) x.1,ev++zam0 nm x.2.1,0):=by
 unfold putT at h ⊢
 by_cases e:x.2.2=0
 ·rw [bW e]; exact ⟨e,rfl⟩
 ·rw [bT e] at h; exact absurd h e
theorem zaU2 (t:List aA) (i:Nat) (q:aA):zbP9 t (i:Int) q=t.set i q:=by unfold zbP9; rw [bW (by omega)]; rfl
theorem zcN1 {t:List aA} {p:aK} {a:aM} {pr:Int} (h:(zaX4 t p a pr).2.2=0):∃ i:Nat,i < t.length∧(t.getD i aA.zero).aB.name=a.name∧zw2 t a.name=i∧(zw4 (t.getD i aA.zero) p a.aN pr).2.2=0∧(zaX4 t p a pr).1=t.set i (zw4 (t.getD i aA.zero) p a.aN pr).1∧ValidT t∧ValidT (zaX4 t p a pr).1:=by
 unfold zaX4 at h ⊢
 obtain ⟨hv,i,h1,h2,h3,e⟩:=zdc1 h
 rw [e] at h ⊢
 cases hfu:zbf4 t p with
 | true=>rw [hfu,bW rfl] at h; exact absurd h (by decide)
 | false =>
  rw [hfu,bT (by decide)] at h
  rw [bT (by decide)]
  obtain ⟨e0,e1⟩:=zcy9 h
  rw [e1,h1,zaU2]
  have hq:=hv.each _ (zd1 (z:=aA.zero) h2)
  have hs:=zam1 hq (.claim p a.aN pr e0)
  refine ⟨i,h2,h3,rfl,e0,rfl,hv,hv.set h2 p hs.1 hs.2 (fun x hx=>?_) hfu⟩
  rcases zcM9 e0 hx with hx|hx
  ·exact .inl (zaw6 hv h2 hx)
  ·exact .inr hx
theorem zcz0 {t:List aA} {p:aK} {nm:ByteArray} (h:(zaH0 t p nm).2.2=0):∃ i:Nat,i < t.length∧(zaH0 t p nm).1=t.set i (zC6 (t.getD i aA.zero) p).1∧ValidT t∧ValidT (zaH0 t p nm).1:=by
 unfold zaH0 at h ⊢
 obtain ⟨hv,i,h1,h2,h3,e⟩:=zdc1 h
 rw [e] at h ⊢
 obtain ⟨e0,e1⟩:=zcy9 h
 rw [e1,h1,zaU2]
 have hq:=hv.each _ (zd1 (z:=aA.zero) h2)
 have hs:=zam1 hq (.cancel p e0)
 obtain ⟨_,_,hw,_,_⟩:=zaz7 e0
 have hp:hasQ (t.getD i aA.zero) p=true:=by unfold hasQ; rw [hw]; rfl
 exact ⟨i,h2,rfl,hv,hv.set h2 p hs.1 hs.2 (fun x hx=>.inl (zaw6 hv h2 (zcy8 e0 hx))) (zcf9 (zaw6 hv h2 hp))⟩
theorem zcN2 {t:List aA} {p:aK} {a:aM} (h:(zaA5 t p a).2.2=0):∃ i:Nat,i < t.length∧(zaA5 t p a).1=t.set i (zD9 (t.getD i aA.zero) p a.aN).1∧ValidT t∧ValidT (zaA5 t p a).1:=by
 unfold zaA5 at h ⊢
 obtain ⟨hv,i,h1,h2,h3,e⟩:=zdc1 h
 rw [e] at h ⊢
 obtain ⟨e0,e1⟩:=zcy9 h
 rw [e1,h1,zaU2]
 have hq:=hv.each _ (zd1 (z:=aA.zero) h2)
 have hs:=zam1 hq (.lower p a.aN e0)
 obtain ⟨_,_,hp0,_,_,_⟩:=zaH8 e0
 have hp:hasQ (t.getD i aA.zero) p=true:=(zz0 _ _).2 (.inr hp0)
 exact ⟨i,h2,rfl,hv,hv.set h2 p hs.1 hs.2 (fun x hx=>.inl (zaw6 hv h2 (zcN0 e0 hx))) (zcf9 (zaw6 hv h2 hp))⟩
theorem zdc2 (u:bL):(catL u).Pairwise (fun a b=>ltN a.name b.name):=by
 have h:∀ x y:UInt8,x < y→ltN ⟨#[x]⟩ ⟨#[y]⟩:=by
  intro x y hxy
  unfold ltN
  rw [ByteArray.toList_eq,ByteArray.toList_eq]
  simp [Op.bytesLess,hxy]
 unfold catL
 simp only [cP,cE,gS,kN,forall_eq_or_imp,forall_eq,List.Pairwise.nil,jZ,hY,eQ]
 refine ⟨⟨?_,?_,?_,?_,?_⟩,⟨?_,?_,?_,?_⟩,⟨?_,?_,?_⟩,⟨?_,?_⟩,?_⟩ <;> exact h _ _ (by decide)
theorem zdc3 (u:bL):catV (catL u)=true:=by
 rw [zbf5]
 exact ⟨by show 6≤8; decide,zcy1 u,zdc2 u⟩
theorem zbY6 {r:aI} (x:aK):hasQ (zan0 r) x=false:=by
 rw [dU,Ne,zz0]
 rintro (⟨w,hw,_⟩|h)
 ·cases hw
 ·exact h rfl
theorem zbY7 {l:List aI} (h:catV l=true):ValidT (l.map zan0):=by
 obtain ⟨h1,h2,h3⟩:=(zbf5 l).1 h
 have he:∀ q ∈ l.map zan0,zg7 q=true:=fun q hq=>by
  obtain ⟨r,hr,rfl⟩:=cH.1 hq
  exact zbU0 (h2 r hr)
 refine ⟨by rw [dD]; exact h1,he,?_,?_⟩
 ·unfold AscN; rw [gO]; exact h3
 ·have:zw6 (l.map zan0)=[]:=by
   refine List.eq_nil_iff_forall_not_mem.2 fun x hx=>?_
   obtain ⟨q,hq,hp⟩:=(zH9 he).1 hx
   obtain ⟨r,_,rfl⟩:=cH.1 hq
   rw [zbY6] at hp; cases hp
  rw [this]; exact eZ _
def sayE (nm:ByteArray) (a:aD) (e:bG):aD:=if e.name=nm then e.after else a
def zh0 (l:List bG) (nm:ByteArray):aD:=l.foldl (sayE nm) aD.zero
theorem zu1 {α:Type} {l:List α} {i:Nat} (z:α) (h:i < l.length):l.take (i+1)=l.take i++[l.getD i z]:=by
 rw [List.take_add_one,bY h,bV,bY h]; rfl
theorem zU5 (l:List bG) (e:bG) (nm:ByteArray):zh0 (l++[e]) nm=if e.name=nm then e.after else zh0 l nm:=by
 unfold zh0; rw [List.foldl_append]; rfl
theorem zbf7 (a b:ByteArray):(a.toList == b.toList)=decide (a=b):=by
 by_cases h:a=b
 ·simp [h]
 ·rw [eX h]
  cases hb:a.toList == b.toList with
  | false=>rfl
  | true=>exact absurd (zaj5.1 (dI.1 hb)) h
theorem zX9 (l:List bG) (nm:ByteArray) (hl:l.length≤1000000):zi5 l nm=some (zh0 l nm):=by
 unfold zi5
 obtain ⟨x,h1,h2⟩:=zq4 (body:=zap1 l nm) (fun g=>∃ i:Nat,g.1=i∧i≤l.length∧g.2=zh0 (l.take i) nm) (fun g=>l.length - g.1.toNat) (fun x=>x=zh0 l nm)
  (fun g ⟨i,hi,hle,hg⟩=>by
   obtain ⟨g1,g2⟩:=g
   simp only at hi hg
   subst hi
   unfold zap1
   by_cases c:i < l.length
   ·left
    have h3:0≤(i:Int)∧(i:Int) < (l.length:Int):=by omega
    simp only [h3.1,h3.2,cX,zk6,cC,cB,Int.toNat_natCast,zbf7,bX,zc6 i (show i < 4611686018427387904 by omega)]
    refine ⟨((i+1:Nat),zh0 (l.take (i+1)) nm),?_,⟨i+1,rfl,c,rfl⟩,by simp only [Int.toNat_natCast]; omega⟩
    rw [zu1 bG.zero c,zU5]
    by_cases e:(l.getD i bG.zero).name=nm
    ·rw [bW e,bW e]
    ·rw [bT e,bT e,hg]
   ·right
    have e:i=l.length:=by omega
    refine ⟨g2,?_,by rw [hg,e,dK]⟩
    simp only [show ¬ (i:Int) < (l.length:Int) by omega,cK,bU,cA]) (0,aD.zero) ⟨0,rfl,by omega,rfl⟩
 rw [h1,Option.bind_some,h2]; rfl
def zbQ3 (nm:ByteArray) (s:List ByteArray):Bool:=s.any fun n=>decide (n=nm)
theorem zbY8 {nm:ByteArray} {s:List ByteArray}:zbQ3 nm s=true ↔ nm ∈ s:=by
 unfold zbQ3; rw [iR]
 exact ⟨fun ⟨n,h1,h2⟩=>fW h2 ▸ h1,fun h=>⟨nm,h,by simp⟩⟩
theorem zcN3 (l:List bG) (i:Nat) (hi:i < l.length) (s:List ByteArray) (hl:s.length≤1000000) (v:Int×List ByteArray) (hv:v=((i:Int),s)) :
  zb9 (zZ2 l v) (false,0)=some (zbQ3 (l.getD i bG.zero).name s):=by
 subst hv
 obtain ⟨x,h1,h2⟩:=zq4 (body:=zZ2 l ((i:Int),s)) (fun g=>∃ k:Nat,g.2=k∧k≤s.length∧g.1=zbQ3 (l.getD i bG.zero).name (s.take k)) (fun g=>s.length - g.2.toNat) (fun x=>x=zbQ3 (l.getD i bG.zero).name s)
  (fun g ⟨k,hk,hle,hg⟩=>by
   obtain ⟨g1,g2⟩:=g
   simp only at hk hg
   subst hk
   unfold zZ2
   by_cases c:k < s.length
   ·left
    have h3:0≤(k:Int)∧(k:Int) < (s.length:Int):=by omega
    have h4:0≤(i:Int)∧(i:Int) < (l.length:Int):=by omega
    simp only [h3.1,h3.2,h4.1,h4.2,cX,eQ,zk6,cC,cB,Int.toNat_natCast,zbf7,zc6 k (show k < 4611686018427387904 by omega)]
    refine ⟨_,rfl,⟨k+1,rfl,c,?_⟩,by simp only [Int.toNat_natCast]; omega⟩
    rw [zu1 (⟨#[]⟩:ByteArray) c,hg]
    simp only [zbQ3,List.any_append,List.any_cons,List.any_nil,jJ]
   ·right
    have e:k=s.length:=by omega
    refine ⟨g1,?_,by rw [hg,e,dK]⟩
    simp only [show ¬ (k:Int) < (s.length:Int) by omega,cK,bU,cA]) (false,0) ⟨0,rfl,by omega,by simp [zbQ3]⟩
 rw [h1,h2]
theorem zcq2:∀ {x y:List UInt8},Op.bytesLess x y=false→x=y∨Op.bytesLess y x=true
 | [],[],_=>.inl rfl
 | [],_ :: _,h=>by simp [Op.bytesLess] at h
 | _ :: _,[],_=>.inr (by simp [Op.bytesLess])
 | a :: x,b :: y,h=>by
  simp only [Op.bytesLess,fT,jH,cR,beq_eq_false_iff_ne,ne_eq] at h
  simp only [Op.bytesLess,dG,bS,bX,dI]
  obtain ⟨h1,h2⟩:=h
  rcases h2 with h2|h2
  ·exact .inr (.inl (Nat.lt_of_le_of_ne (Nat.le_of_not_lt h1) fun e=>h2 (UInt8.toNat_inj.1 e.symm)))
  ·by_cases e:a=b
   ·subst e
    rcases zcq2 h2 with k|k
    ·exact .inl (by rw [k])
    ·exact .inr (.inr ⟨rfl,k⟩)
   ·exact .inr (.inl (Nat.lt_of_le_of_ne (Nat.le_of_not_lt h1) fun k=>e (UInt8.toNat_inj.1 k.symm)))
theorem zcN4 {a b:ByteArray} (h:¬ ltN a b) (ne:a≠b):ltN b a:=by
 unfold ltN at *
 rcases zcq2 (dU.2 h) with k|k
 ·exact absurd (zaj5.1 k) ne
 ·exact k
theorem zaE5 {α:Type} (P B:List α) (x z:α):(P++x :: B).getD P.length z=x:=by
 rw [bV,fB (cY _),gH]; rfl
theorem zbi7 {α:Type} (P B:List α) (x z:α):(P++x :: B).set P.length z=P++z :: B:=by
 rw [gE _ _ (cY _),gH]; rfl
theorem zcz1 {A:List ByteArray} {x:ByteArray} (h:A.Pairwise ltN) (hx:x ∉ A) (hl:A.length≤1000000) :
  ∃ y,zb9 zZ0 ((A.length:Int),A++[x])=some y∧y.Perm (x :: A)∧y.Pairwise ltN:=by
 refine zq4 (body:=zZ0) (fun g=>∃ P B:List ByteArray,g.1=P.length∧g.2=P++x :: B∧(∀ b ∈ B,ltN x b)∧P++B=A) (fun g=>g.1.toNat) (fun y=>y.Perm (x :: A)∧y.Pairwise ltN) ?_ _ ⟨A,[],rfl,rfl,(fun b hb=>nomatch hb),dV A⟩
 rintro ⟨i,l⟩ ⟨P,B,h1,h2,h3,h4⟩
 simp only at h1 h2
 subst h1; subst h2
 have hlen:P.length+B.length=A.length:=by rw [← h4,bZ]
 have hA:=h; rw [← h4] at hA
 unfold zZ0
 rcases iH P with rfl|⟨Q,y,rfl⟩
 ·right
  refine ⟨x :: B,?_,?_,cP.2 ⟨h3,hA⟩⟩
  ·simp only [List.length_nil,Int.cast_ofNat_Int,fC,cK,bU,hY,zk6,eP,cA,List.nil_append]
  ·rw [← h4]; exact .refl _
 ·simp only [List.concat_eq_append] at hlen h4 hA ⊢
  simp only [bZ,List.length_singleton] at hlen ⊢
  have e1:IntKind.i64.wrap (((Q.length+1:Nat):Int) - 1)=(Q.length:Int):=by rw [zi0 (by omega) (by omega)]; omega
  have ex:(Q++[y]++x :: B).getD (Q.length+1) ⟨#[]⟩=x:=by have:=zaE5 (Q++[y]) B x ⟨#[]⟩; rwa [bZ,List.length_singleton] at this
  have ey:(Q++[y]++x :: B).getD Q.length ⟨#[]⟩=y:=by rw [dB]; exact zaE5 Q (x :: B) y _
  have hyx:x≠y:=fun e=>hx (by rw [← h4,e]; simp)
  rw [e1,show ((Q.length+1:Nat):Int).toNat=Q.length+1 from Int.toNat_natCast _,show ((Q.length:Nat):Int).toNat=Q.length from Int.toNat_natCast _,ex,ey]
  have hg:(0:Int)≤((Q.length+1:Nat):Int)∧((Q.length+1:Nat):Int) < ((Q.length+1+(x :: B).length:Nat):Int):=by rw [List.length_cons]; omega
  have hg2:(0:Int)≤(Q.length:Int)∧(Q.length:Int) < ((Q.length+1+(x :: B).length:Nat):Int):=by rw [List.length_cons]; omega
  simp only [hg.1,hg.2,hg2.1,hg2.2,cX,eQ,zk6,show (0:Int) < ((Q.length+1:Nat):Int) by omega,cC,cJ]
  by_cases c:ltN x y
  ·left
   rw [bW (show Op.bytesLess x.toList y.toList=true from c)]
   refine ⟨_,rfl,⟨Q,y :: B,rfl,?_,fun b hb=>?_,by rw [← h4,dB]; rfl⟩,by simp only; omega⟩
   ·show ((Q++[y]++x :: B).set (Q.length+1) y).set Q.length x=_
    have s1:=zbi7 (Q++[y]) B x y
    rw [bZ,List.length_singleton] at s1
    rw [s1,dB]
    exact zbi7 Q (y :: B) y x
   ·rcases cE.1 hb with rfl|hb
    ·exact c
    ·exact h3 b hb
  ·right
   rw [bT (show ¬ Op.bytesLess x.toList y.toList=true from c)]
   refine ⟨_,rfl,?_,?_⟩
   ·rw [← h4]; exact kD
   ·have hyl:=zcN4 c hyx
    have hp:=eH.1 hA
    refine eH.2 ⟨hp.1,cP.2 ⟨h3,hp.2.1⟩,fun a ha b hb=>?_⟩
    have hax:ltN a x:=by
     rcases cI.1 ha with ha|ha
     ·exact zaU1 ((eH.1 hp.1).2.2 a ha y (by simp)) hyl
     ·rw [dL.1 ha]; exact hyl
    rcases cE.1 hb with rfl|hb
    ·exact hax
    ·exact zaU1 hax (h3 b hb)
theorem zaF5 (l:List bG) (hl:l.length≤1000000):∃ ns,zi1 l=some ns∧ns.Pairwise ltN∧∀ n,n ∈ ns ↔ ∃ e ∈ l,e.name=n:=by
 unfold zi1
 obtain ⟨x,h1,h2⟩:=zq4 (body:=zZ3 l) (fun g=>∃ i:Nat,g.1=i∧i≤l.length∧g.2.length≤i∧g.2.Pairwise ltN∧∀ n,n ∈ g.2 ↔ ∃ e ∈ l.take i,e.name=n) (fun g=>l.length - g.1.toNat)
  (fun x=>x.Pairwise ltN∧∀ n,n ∈ x ↔ ∃ e ∈ l,e.name=n)
  (fun g ⟨i,hi,hle,hlen,hasc,hg⟩=>by
   obtain ⟨g1,g2⟩:=g
   simp only at hi hlen hg hasc
   subst hi
   unfold zZ3
   by_cases c:i < l.length
   ·left
    have h3:0≤(i:Int)∧(i:Int) < (l.length:Int):=by omega
    simp only [h3.2,cC,cB]
    rw [zcN3 l i c g2 (by omega) _ rfl,Option.bind_some]
    unfold zZ1
    have hmem:∀ n,(∃ e ∈ l.take (i+1),e.name=n) ↔ n ∈ g2∨n=(l.getD i bG.zero).name:=fun n=>by
     rw [zu1 bG.zero c,hg]
     simp only [cI,dL,or_and_right,exists_or,exists_eq_left]
     exact or_congr kH ⟨Eq.symm,Eq.symm⟩
    by_cases hs:(l.getD i bG.zero).name ∈ g2
    ·rw [bW (zbY8.2 hs)]
     refine ⟨_,by rw [zc6 i (by omega)],⟨i+1,rfl,c,by simp only; omega,hasc,fun n=>?_⟩,by simp only [Int.toNat_natCast]; omega⟩
     rw [hmem]
     exact ⟨Or.inl,fun h=>h.elim id fun h=>h ▸ hs⟩
    ·rw [bT (fun h=>hs (zbY8.1 h)),gdp h3,gdp (by simp only; omega)]
     obtain ⟨y,e1,e2,e3⟩:=zcz1 hasc hs (by omega)
     rw [show IntKind.i64.wrap (((g2.length+1:Nat):Int) - 1)=(g2.length:Int) by rw [zi0 (by omega) (by omega)]; omega,show (i:Int).toNat=i from Int.toNat_natCast i,e1,Option.bind_some]
     unfold zay3
     refine ⟨_,by rw [zc6 i (by omega)],⟨i+1,rfl,c,by have:=e2.length_eq; simp only [List.length_cons] at this; simp only; omega,e3,fun n=>?_⟩,by simp only [Int.toNat_natCast]; omega⟩
     rw [hmem,e2.mem_iff,cE]
     exact or_comm
   ·right
    have e:i=l.length:=by omega
    refine ⟨g2,?_,hasc,fun n=>by rw [hg,e,dK]⟩
    simp only [show ¬ (i:Int) < (l.length:Int) by omega,cK,bU,cA]) (0,[]) ⟨0,rfl,by omega,by simp,.nil,fun n=>by simp⟩
 exact ⟨x,by rw [h1,Option.bind_some]; rfl,h2⟩
theorem zaq9 (a:aD):zm4 a=true ↔ (1≤a.mode∧a.mode≤5∧a.aR=0)∨(a.mode=0∧1≤a.aR∧a.aR≤8):=by
 unfold zm4 zy0
 simp only [dG,bS,bX]
 omega
def rkM (m:Int):Nat:=if m=5 then 4 else if m=4 then 3 else if m=1 then 1 else 2
def rkA (a:aD):Nat:=if a.mode=0 then a.aR.toNat else rkM a.mode
theorem zdc4 {a b:aD} (h:zu9 a b=true):rkA a < rkA b∧rkA b≤8:=by
 unfold zu9 at h
 by_cases h1:((!(zm4 b))||(decide (a=b)))=true
 ·rw [bW h1] at h; cases h
 ·rw [bT h1] at h
  simp only [dG,cS,bX,jQ,eN] at h1
  obtain ⟨ub,ne⟩:=h1
  have ub:=(zaq9 b).1 ub
  have hb:rkA b≤8:=by
   unfold rkA rkM
   repeat' split
   all_goals omega
  refine ⟨?_,hb⟩
  by_cases h2:a=({ aD.zero with }:aD)
  ·subst h2
   show rkA aD.zero < rkA b
   unfold rkA rkM
   simp only [aD.zero,cB]
   repeat' split
   all_goals omega
  ·rw [bT (by simpa using h2)] at h
   by_cases h3:(!(zm4 a))=true
   ·rw [bW h3] at h; cases h
   ·rw [bT h3] at h
    have ua:=(zaq9 a).1 (by simpa using h3)
    by_cases ma:a.mode=0
    ·rw [bT (by simp [ma])] at h
     have h:=fW h
     unfold rkA
     rw [bW ma,bW (by omega)]
     omega
    ·rw [bW (by simp [ma])] at h
     have hc:=(zaK2 b.mode a.mode).1 h
     have hm:a.mode≠b.mode:=fun e=>ne (by
      cases a; cases b
      simp only at e ua ub ma ⊢
      subst e
      congr 1
      omega)
     unfold rkA rkM
     rw [bT ma,bT (by omega)]
     repeat' split
     all_goals omega
def rkN (l:List bG):List ByteArray→Nat
 | []=>0
 | n :: ns=>rkA (zh0 l n)+rkN l ns
theorem zcq3 (l:List bG) (e:bG):∀ ns:List ByteArray,e.name ∉ ns→rkN (l++[e]) ns=rkN l ns
 | [],_=>rfl
 | n :: ns,h=>by
  have h1:e.name≠n:=fun h2=>h (by rw [h2]; exact .head _)
  have h3:=zcq3 l e ns fun h2=>h (.tail _ h2)
  simp only [rkN,zU5,bT h1,h3]
theorem zcq4 (l:List bG) (e:bG) (hg:rkA (zh0 l e.name) < rkA e.after):∀ ns:List ByteArray,ns.Nodup→e.name ∈ ns→rkN l ns < rkN (l++[e]) ns
 | [],_,h=>nomatch h
 | n :: ns,hn,h=>by
  have hc:=fZ.1 hn
  by_cases c:e.name=n
  ·have h1:=zcq3 l e ns (by rw [c]; exact hc.1)
   simp only [rkN,zU5,bW c,h1]
   rw [c] at hg; omega
  ·have h1:=zcq4 l e hg ns hc.2 ((cE.1 h).resolve_left c)
   simp only [rkN,zU5,bT c]; omega
theorem zdc5 (l:List bG) (h:∀ n,rkA (zh0 l n)≤8):∀ ns:List ByteArray,rkN l ns≤8 * ns.length
 | []=>cY _
 | n :: ns=>by
  have:=zdc5 l h ns
  have:=h n
  simp only [rkN,List.length_cons]; omega
theorem zy5 {α:Type} {l:List α} {z x:α} (h:x ∈ l):∃ i,i < l.length∧l.getD i z=x:=by
 obtain ⟨i,hi,e⟩:=eR.1 h
 exact ⟨i,hi,by rw [bV,bY hi]; exact e⟩
theorem zby6 (l:List bN) (x:Int) (hl:l.length≤1000000):∃ v,zk8 l x=some v∧(v=-1∧(∀ s ∈ l,s.label≠x)∨∃ i:Nat,v=i∧i < l.length∧(l.getD i bN.zero).label=x∧∀ j,j < i→(l.getD j bN.zero).label≠x):=by
 unfold zk8
 rw [zbi6 l bN.zero (fun a=>decide (a.label=x)) (fun i hi=>by
  unfold zao7
  have h3:0≤(i:Int)∧(i:Int) < (l.length:Int):=by omega
  simp only [h3.1,h3.2,cX,zk6,cC,cB,Int.toNat_natCast,zc6 i (show i < 4611686018427387904 by omega)]
  split <;> rfl) (by unfold zao7; simp)]
 have gg:∀ k,(hk:k < l.length)→l.getD k bN.zero=l[k]:=fun k hk=>by rw [bV,bY hk]; rfl
 cases h:l.findIdx? fun a=>decide (a.label=x) with
 | none =>
  refine ⟨-1,rfl,.inl ⟨rfl,fun s hs e=>?_⟩⟩
  have:=gZ.1 h s hs
  simp [e] at this
 | some i =>
  obtain ⟨h1,h2,h3⟩:=gY.1 h
  refine ⟨i,rfl,.inr ⟨i,rfl,h1,by rw [gg i h1]; exact fW h2,fun j hj e=>?_⟩⟩
  rw [gg j (by omega)] at e
  exact absurd (cF e) (h3 j hj)
def zcq5 (l:aW) (i:Nat):Prop:=1≤(l.aY.getD i bN.zero).label∧(l.aY.getD i bN.zero).label≤99∧0≤(l.aY.getD i bN.zero).at_∧(l.aY.getD i bN.zero).at_≤(l.aH.length:Int) ∧
 (0 < i→(l.aY.getD (i - 1) bN.zero).at_≤(l.aY.getD i bN.zero).at_)∧∀ j,j < i→(l.aY.getD j bN.zero).label≠(l.aY.getD i bN.zero).label
def EntV (l:List bG) (i:Nat):Prop:=zC1 (l.getD i bG.zero).name=true∧(l.getD i bG.zero).before=zh0 (l.take i) (l.getD i bG.zero).name∧zu9 (l.getD i bG.zero).before (l.getD i bG.zero).after=true
structure LedgerP (l:aW):Prop where
 le:l.aH.length≤72
 ls:l.aY.length≤4
 ent:∀ i,i < l.aH.length→EntV l.aH i
 n8:∀ ns:List ByteArray,ns.Nodup→(∀ n ∈ ns,∃ e ∈ l.aH,e.name=n)→ns.length≤8
 sv:∀ i,i < l.aY.length→zcq5 l i
theorem LedgerP.grow {l:aW} (h:LedgerP l):∀ i,i < l.aH.length→(l.aH.getD i bG.zero).before=zh0 (l.aH.take i) (l.aH.getD i bG.zero).name∧zu9 (l.aH.getD i bG.zero).before (l.aH.getD i bG.zero).after=true:=fun i hi=>(h.ent i hi).2
theorem LedgerP.at_ {l:aW} (h:LedgerP l):∀ s ∈ l.aY,0≤s.at_∧s.at_≤(l.aH.length:Int):=fun s hs=>by
 obtain ⟨i,hi,rfl⟩:=zy5 (z:=bN.zero) hs
 have:=h.sv i hi
 exact ⟨this.2.2.1,this.2.2.2.1⟩
theorem zar0 {body:Int→Option (Int⊕(Unit⊕Bool))} (n:Nat) (P:Nat→Prop) (h:∀ i:Nat,i < n→∃ b:Bool,body (i:Int)=some (if b=true then .inl ((i+1:Nat):Int) else .inr (.inr false))∧(b=true ↔ P i)) (he:body (n:Int)=some (.inr (.inl ()))) :
  zb9 body 0=some (.inr false)∧(¬ ∀ i,i < n→P i)∨zb9 body 0=some (.inl ())∧∀ i,i < n→P i:=by
 obtain ⟨x,h1,h2⟩:=zq4 (body:=body) (fun g=>∃ i:Nat,g=i∧i≤n∧∀ k,k < i→P k) (fun g=>n - g.toNat) (fun x=>x=.inr false∧(¬ ∀ i,i < n→P i)∨x=.inl ()∧∀ i,i < n→P i)
  (fun g ⟨i,hi,hle,hg⟩=>by
   subst hi
   by_cases c:i < n
   ·obtain ⟨b,hb,hp⟩:=h i c
    cases b with
    | false=>exact .inr ⟨_,hb,.inl ⟨rfl,fun hall=>by have:=hp.2 (hall i c); cases this⟩⟩
    | true=>exact .inl ⟨_,hb,⟨i+1,rfl,c,fun k hk=>by
      rcases hX k i with h5|h5
      ·exact hg k h5
      ·have:k=i:=by omega
       subst this; exact hp.1 rfl⟩,by simp only [Int.toNat_natCast]; omega⟩
   ·have:i=n:=by omega
    subst this
    exact .inr ⟨_,he,.inr ⟨rfl,hg⟩⟩) 0 ⟨0,rfl,by omega,fun k hk=>by omega⟩
 rcases h2 with ⟨rfl,h2⟩|⟨rfl,h2⟩
 ·exact .inl ⟨h1,h2⟩
 ·exact .inr ⟨h1,h2⟩
theorem zbj6 (l:aW) (hl:l.aY.length≤4) (i:Nat) (c:i < l.aY.length):∃ b:Bool,zZ8 l (i:Int)=some (if b=true then .inl ((i+1:Nat):Int) else .inr (.inr false))∧(b=true ↔ zcq5 l i):=by
 unfold zZ8
 have h3:0≤(i:Int)∧(i:Int) < (l.aY.length:Int):=by omega
 simp only [h3.1,h3.2,cX,zk6,cC,cB,Int.toNat_natCast]
 rw [gdp (by
  intro h
  simp only [bS,bX] at h
  have:=h.2
  rw [zi0 (by omega) (by omega)]; omega)]
 obtain ⟨v,hv,hv2⟩:=zby6 l.aY ((l.aY.getD i bN.zero).label) (by omega)
 obtain ⟨A,hA0,hA⟩:∃ A:Bool,(((((decide ((l.aY.getD i bN.zero).label < 1))||(decide (99 < (l.aY.getD i bN.zero).label)))||(decide ((l.aY.getD i bN.zero).at_ < 0)))||(decide ((l.aH.length:Int) < (l.aY.getD i bN.zero).at_)))||((decide (0 < (i:Int)))&&(decide ((l.aY.getD i bN.zero).at_ < (l.aY.getD ((IntKind.i64.wrap ((i:Int) - 1)).toNat) bN.zero).at_))))=A∧(A=false ↔ 1≤(l.aY.getD i bN.zero).label∧(l.aY.getD i bN.zero).label≤99∧0≤(l.aY.getD i bN.zero).at_∧(l.aY.getD i bN.zero).at_≤(l.aH.length:Int)∧(0 < i→(l.aY.getD (i - 1) bN.zero).at_≤(l.aY.getD i bN.zero).at_)):=by
  refine ⟨_,rfl,?_⟩
  simp only [fT,jH,cR]
  by_cases c0:0 < i
  ·rw [zas2 i (by omega) c0,Int.toNat_natCast]
   constructor
   ·rintro ⟨⟨⟨⟨a1,a2⟩,a3⟩,a4⟩,a5⟩
    exact ⟨by omega,by omega,by omega,by omega,fun _=>by rcases a5 with a5|a5 <;> omega⟩
   ·rintro ⟨a1,a2,a3,a4,a5⟩
    exact ⟨⟨⟨⟨by omega,by omega⟩,by omega⟩,by omega⟩,.inr (by have:=a5 c0; omega)⟩
  ·constructor
   ·rintro ⟨⟨⟨⟨a1,a2⟩,a3⟩,a4⟩,a5⟩
    exact ⟨by omega,by omega,by omega,by omega,fun h=>absurd h c0⟩
   ·rintro ⟨a1,a2,a3,a4,a5⟩
    exact ⟨⟨⟨⟨by omega,by omega⟩,by omega⟩,by omega⟩,.inl (by omega)⟩
 simp only [hA0]
 cases A with
 | true=>exact ⟨false,rfl,(fun h=>nomatch h),fun h=>(hA.2 ⟨h.1,h.2.1,h.2.2.1,h.2.2.2.1,h.2.2.2.2.1⟩).symm⟩
 | false =>
  have hs:=hA.1 rfl
  simp only [dF,cB,hv,Option.bind_some,dR]
  rcases hv2 with ⟨rfl,hn⟩|⟨k,rfl,hk,hkl,hkm⟩
  ·exact absurd rfl (hn _ (zd1 c))
  ·by_cases e:k=i
   ·subst e
    refine ⟨true,by simp [zc6 k (show k < 4611686018427387904 by omega)],fun _=>⟨hs.1,hs.2.1,hs.2.2.1,hs.2.2.2.1,hs.2.2.2.2,hkm⟩,fun _=>rfl⟩
   ·refine ⟨false,by simp; omega,(fun h=>nomatch h),fun h=>?_⟩
    rcases hX k i with h5|h5
    ·exact absurd hkl (h.2.2.2.2.2 k h5)
    ·exact absurd rfl (hkm i (by omega))
theorem zbj7 (l:aW) (hl:l.aH.length≤72) (i:Nat) (c:i < l.aH.length):∃ b:Bool,zaa0 l (i:Int)=some (if b=true then .inl ((i+1:Nat):Int) else .inr (.inr false))∧(b=true ↔ EntV l.aH i):=by
 unfold zaa0 EntV
 have h3:0≤(i:Int)∧(i:Int) < (l.aH.length:Int):=by omega
 simp only [h3.1,h3.2,cX,zk6,cC,cB,Int.toNat_natCast]
 rw [zaB5,Option.bind_some,gdp (fun _=>by simp <;> omega),zX9 _ _ (by simp; omega)]
 cases hn:zC1 (l.aH.getD i bG.zero).name with
 | false=>exact ⟨false,by simp,by simp⟩
 | true =>
  simp only [cB,Option.bind_some,cU,dR,gC]
  by_cases e1:(l.aH.getD i bG.zero).before=zh0 (l.aH.take i) (l.aH.getD i bG.zero).name
  ·have hd:decide ((l.aH.getD i bG.zero).before=zh0 (l.aH.take i) (l.aH.getD i bG.zero).name)=true:=cF e1
   cases e2:zu9 (l.aH.getD i bG.zero).before (l.aH.getD i bG.zero).after with
   | false=>exact ⟨false,by simp only [dF,iQ,cB,bU,cA],(fun h=>nomatch h),fun h=>h.2.symm ▸ rfl⟩
   | true=>exact ⟨true,by simp only [hd,cU,fA,bU,cA,cB,zc6 i (show i < 4611686018427387904 by omega)],fun _=>⟨e1,rfl⟩,fun _=>rfl⟩
  ·have hd:decide ((l.aH.getD i bG.zero).before=zh0 (l.aH.take i) (l.aH.getD i bG.zero).name)=false:=eX e1
   exact ⟨false,by simp only [hd,dF,gI,cB,bU,cA],(fun h=>nomatch h),fun h=>absurd h.1 e1⟩
theorem zbf8 (l:List bG) (hl:l.length≤1000000):∃ ns,zi1 l=some ns∧ns.length≤l.length∧∀ n,n ∈ ns ↔ ∃ e ∈ l,e.name=n:=by
 obtain ⟨ns,h1,h2,h3⟩:=zaF5 l hl
 refine ⟨ns,h1,?_,h3⟩
 have:=dM (h2.imp zaX3) (l₂:=l.map (·.name)) fun n hn=>by
  obtain ⟨e,he,hn⟩:=(h3 n).1 hn
  exact cH.2 ⟨e,he,hn⟩
 simpa using this
theorem zbf9 (l:aW):∃ b,zp5 l=some b∧(b=true ↔ LedgerP l):=by
 unfold zp5
 by_cases c:l.aH.length≤72∧l.aY.length≤4
 ·rw [bT (by simp; omega)]
  rcases zar0 l.aH.length _ (fun i hi=>zbj7 l c.1 i hi) (by unfold zaa0; simp) with ⟨h1,h2⟩|⟨h1,h2⟩
  ·exact ⟨false,by rw [h1]; rfl,(fun h=>nomatch h),fun h=>absurd h.ent h2⟩
  ·rw [h1,Option.bind_some]
   show ∃ b,zZ9 l ()=some b∧_
   unfold zZ9
   obtain ⟨ns,e1,e2,e3⟩:=zaF5 l.aH (by omega)
   have nd:=e2.imp (S:=(·≠·)) zaX3
   rw [e1,Option.bind_some]
   by_cases c8:(8:Int) < ns.length
   ·exact ⟨false,by rw [bW (by simpa using c8)],(fun h=>nomatch h),fun h=>by have:=h.n8 ns nd fun n hn=>(e3 n).1 hn; omega⟩
   ·rw [bT (by simpa using c8)]
    rcases zar0 l.aY.length _ (fun i hi=>zbj6 l c.2 i hi) (by unfold zZ8; simp) with ⟨h3,h4⟩|⟨h3,h4⟩
    ·exact ⟨false,by rw [h3]; rfl,(fun h=>nomatch h),fun h=>absurd h.sv h4⟩
    ·refine ⟨true,by rw [h3]; rfl,fun _=>⟨c.1,c.2,h2,fun ms hm hs=>?_,h4⟩,fun _=>rfl⟩
     have:=dM hm (l₂:=ns) fun n hn=>(e3 n).2 (hs n hn)
     omega
 ·exact ⟨false,by rw [bW (by simp; omega)],(fun h=>nomatch h),fun h=>absurd ⟨h.le,h.ls⟩ c⟩
theorem zaj0 {l:aW} (h:LedgerP l):zp5 l=some true:=by
 obtain ⟨b,h1,h2⟩:=zbf9 l
 rw [h1,h2.2 h]
theorem zdc6 {l:List bG} (h:∀ i,i < l.length→EntV l i) {ns:List ByteArray} (hn:ns.Nodup) (h8:ns.length≤8) (hs:∀ e ∈ l,e.name ∈ ns):l.length≤64:=by
 have key:∀ i,i≤l.length→i≤rkN (l.take i) ns∧∀ n,rkA (zh0 (l.take i) n)≤8:=by
  intro i
  induction i with
  | zero=>intro _; exact ⟨eZ _,fun n=>by show rkA aD.zero≤8; decide⟩
  | succ i ih =>
   intro hi
   obtain ⟨h1,h2⟩:=ih (by omega)
   obtain ⟨_,h4,h5⟩:=h i hi
   have h6:=zdc4 h5
   rw [h4] at h6
   rw [zu1 bG.zero hi]
   refine ⟨?_,fun n=>?_⟩
   ·have:=zcq4 (l.take i) (l.getD i bG.zero) h6.1 ns hn (hs _ (zd1 hi))
    omega
   ·rw [zU5]
    split
    ·exact h6.2
    ·exact h2 n
 obtain ⟨h1,h2⟩:=key l.length (cY _)
 have:=zdc5 _ h2 ns
 omega
end Ab
end Go.Proofs.YtfkjffmjkbkmhaaGreatDoor
