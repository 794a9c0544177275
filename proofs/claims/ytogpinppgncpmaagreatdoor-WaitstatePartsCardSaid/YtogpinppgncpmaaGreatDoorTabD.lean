import Derived.Test.YtogpinppgncpmaaGreatDoorTabB
import Derived.Test.YtogpinppgncpmaaGreatDoorHoldG
namespace Go.Proofs.YtogpinppgncpmaaGreatDoor
namespace Ab
set_option linter.unusedVariables false
set_option linter.unusedSimpArgs false
mutual
def zq2:aO→Int
 | ⟨_,_,ks⟩=>1+zt1 ks
def zt1:List aO→Int
 | []=>0
 | k :: l=>max (zq2 k) (zt1 l)
end
mutual
def zn7:aO→Int
 | ⟨_,_,ks⟩=>1+zw8 ks
def zw8:List aO→Int
 | []=>0
 | k :: l=>zn7 k+zw8 l
end
def zaz2 (a:aC):Bool:=zp6 a
mutual
def okE:aO→Bool
 | ⟨k,a,ks⟩=>if ks.length=0 then decide (k=0)&&zX5 a.name&&zaz2 a.aK else decide (1≤k)&&decide (k≤(ks.length:Int))&&decide (a=aM.zero)&&okL ks
def okL:List aO→Bool
 | []=>true
 | k :: l=>okE k&&okL l
end
mutual
def zaD7:aO→List aM
 | ⟨_,a,ks⟩=>if ks.length=0 then [a] else zas5 ks
def zas5:List aO→List aM
 | []=>[]
 | k :: l=>zaD7 k++zas5 l
end
theorem zaV8 (e:aO):zq2 e=1+zt1 e.bA:=by cases e; rw [zq2]
theorem zL0 (e:aO):zn7 e=1+zw8 e.bA:=by cases e; rw [zn7]
theorem zck3 (e:aO):okE e=if e.bA.length=0 then decide (e.k=0)&&zX5 e.bB.name&&zaz2 e.bB.aK else decide (1≤e.k)&&decide (e.k≤(e.bA.length:Int))&&decide (e.bB=aM.zero)&&okL e.bA:=by cases e; rw [okE]
theorem zaN1 (e:aO):zaD7 e=if e.bA.length=0 then [e.bB] else zas5 e.bA:=by cases e; rw [zaD7]
theorem zbs4:zt1 []=0:=by rw [zt1]
theorem zaG3 (k:aO) (l:List aO):zt1 (k :: l)=max (zq2 k) (zt1 l):=by rw [zt1]
theorem zaZ3:zw8 []=0:=by rw [zw8]
theorem zam8 (k:aO) (l:List aO):zw8 (k :: l)=zn7 k+zw8 l:=by rw [zw8]
theorem zai7 {e k:aO} {n:Nat} (h:_root_.SizeOf.sizeOf e < n+1) (hk:k ∈ e.bA):_root_.SizeOf.sizeOf k < n:=by
 have h2:=List.sizeOf_lt_of_mem hk
 cases e
 simp at h h2
 omega
theorem zbK5:∀ (n:Nat) (e:aO),_root_.SizeOf.sizeOf e < n→1≤zq2 e∧1≤zn7 e∧zq2 e≤zn7 e∧((zaD7 e).length:Int)≤zn7 e
 | 0,_,h=>by omega
 | n+1,e,h=>by
  have key:∀ l:List aO,(∀ k ∈ l,k ∈ e.bA)→0≤zt1 l∧0≤zw8 l∧zt1 l≤zw8 l∧(l.length:Int)≤zw8 l∧((zas5 l).length:Int)≤zw8 l:=by
   intro l
   induction l with
   | nil=>intro _; simp [zt1,zw8,zas5]
   | cons k l ih =>
    intro hl
    obtain ⟨h1,h2,h3,h4,h5⟩:=ih fun x hx=>hl x (.tail _ hx)
    obtain ⟨g1,g2,g3,g4⟩:=zbK5 n k (zai7 h (hl k (.head _)))
    simp only [zt1,zw8,zas5,bX,List.length_cons]
    refine ⟨?_,?_,?_,?_,?_⟩ <;> omega
  obtain ⟨h1,h2,h3,h4,h5⟩:=key e.bA fun _ h=>h
  rw [zaV8,zL0,zaN1]
  refine ⟨by omega,by omega,by omega,?_⟩
  split
  ·simp; omega
  ·omega
theorem zah7 (e:aO):1≤zq2 e:=(zbK5 _ e (dW _)).1
theorem zac0 (e:aO):1≤zn7 e:=(zbK5 _ e (dW _)).2.1
theorem zbT8 (e:aO):((zaD7 e).length:Int)≤zn7 e:=(zbK5 _ e (dW _)).2.2.2
theorem zaN2:∀ l:List aO,0≤zt1 l
 | []=>by simp [zt1]
 | k :: l=>by have:=zaN2 l; have:=zah7 k; rw [zaG3]; omega
theorem zC2:∀ l:List aO,(l.length:Int)≤zw8 l
 | []=>by simp [zw8]
 | k :: l=>by have:=zC2 l; have:=zac0 k; simp only [zw8,List.length_cons]; omega
theorem zbw8 {a:Int} (h1:1≤a) (h4:a≤4) (F:aO→Int→Option (Int×Int)):∀ (l:List aO),(∀ k ∈ l,∀ c,0≤c→c≤24→∃ c',F k c=some (if a+1+zq2 k≤5∧c+zn7 k≤24 then (zq2 k,c+zn7 k) else (0,c'))) →
  ∀ (i:Nat) (m c:Int),0≤m→0≤c→c≤24→∃ c',walk (fun _ k (s:Int×Int)=>(F k s.2).bind fun v=>if v.1=0 then some (.inr (Sum.inr (0,v.2))) else some (.inl (if s.1 < v.1 then v.1 else s.1,v.2))) (fun s=>Sum.inl (β:=Int×Int) s) l i (m,c) =
   some (if a+1+zt1 l≤5∧c+zw8 l≤24 then .inl (if m < zt1 l then zt1 l else m,c+zw8 l) else .inr (0,c'))
 | [],_,i,m,c,hm,hc,h24=>⟨0,by rw [zbs4,zaZ3,bV (by omega)]; simp only [walk]; rw [bU (by omega),Int.add_zero]⟩
 | k :: l,hF,i,m,c,hm,hc,h24=>by
  obtain ⟨c1,e1⟩:=hF k (.head _) c hc h24
  have p1:=zah7 k
  have p2:=zac0 k
  have p3:=zaN2 l
  have p4:=zC2 l
  by_cases hk:a+1+zq2 k≤5∧c+zn7 k≤24
  ·rw [bV hk] at e1
   obtain ⟨c2,e2⟩:=zbw8 h1 h4 F l (fun x hx=>hF x (.tail _ hx)) (i+1) (if m < zq2 k then zq2 k else m) (c+zn7 k) (by split <;> omega) (by omega) hk.2
   refine ⟨c2,?_⟩
   rw [zaG3,zam8]
   simp only [walk,e1,Option.bind_some,bU (show ¬ zq2 k=0 by omega),e2]
   by_cases hl:a+1+zt1 l≤5∧c+zn7 k+zw8 l≤24
   ·rw [bV hl,bV (show a+1+max (zq2 k) (zt1 l)≤5∧c+(zn7 k+zw8 l)≤24 by omega),show c+(zn7 k+zw8 l)=c+zn7 k+zw8 l by omega]
    refine cP some (cP Sum.inl (Prod.ext ?_ rfl))
    show (if (if m < zq2 k then zq2 k else m) < zt1 l then zt1 l else if m < zq2 k then zq2 k else m)=if m < max (zq2 k) (zt1 l) then max (zq2 k) (zt1 l) else m
    by_cases q1:m < zq2 k <;> by_cases q2:m < zt1 l <;> by_cases q3:zq2 k < zt1 l <;> simp only [q1,q2,q3,cB,cA] <;> (repeat' split) <;> omega
   ·rw [bU hl,bU (by omega)]
  ·rw [bU hk] at e1
   refine ⟨c1,?_⟩
   rw [zaG3,zam8]
   simp only [walk,e1,Option.bind_some,cB]
   rw [bU (by omega)]
theorem zbT9:∀ (n:Nat) (e:aO),_root_.SizeOf.sizeOf e < n→∀ a c,1≤a→a≤5→0≤c→c≤24→∃ c',zv7 n e a c=some (if a+zq2 e≤5∧c+zn7 e≤24 then (zq2 e,c+zn7 e) else (0,c'))
 | 0,_,h,_,_,_,_,_,_=>by omega
 | n+1,e,h,a,c,h1,h5,h0,h24=>by
  show ∃ c',zF5 (zv7 n) e a c=_
  unfold zF5
  have p1:=zah7 e
  have p2:=zac0 e
  have w1:IntKind.i64.wrap (c+1)=c+1:=zf5 (by omega) (by omega)
  have w2:IntKind.i64.wrap (a+1)=a+1:=zf5 (by omega) (by omega)
  rw [w1]
  by_cases c4:4 < a∨24 < c+1
  ·rw [bV (by simpa using c4)]
   exact ⟨c+1,by rw [bU (by omega)]⟩
  ·rw [bU (by simpa using c4)]
   have hF:∀ k ∈ e.bA,∀ c,0≤c→c≤24→∃ c',zv7 n k (a+1) c=some (if a+1+zq2 k≤5∧c+zn7 k≤24 then (zq2 k,c+zn7 k) else (0,c')) :=
    fun k hk c h0 h24=>zbT9 n k (zai7 h hk) (a+1) c (by omega) (by omega) h0 h24
   have key:=zB3 (body:=zJ2 (zv7 n) e a) e.bA aO.zero (fun i (s:Int×Int)=>(s.1,(i:Int),s.2))
    (fun _ k (s:Int×Int)=>(zv7 n k (a+1) s.2).bind fun v=>if v.1=0 then some (.inr (Sum.inr (0,v.2))) else some (.inl (if s.1 < v.1 then v.1 else s.1,v.2))) (fun s=>Sum.inl (β:=Int×Int) s)
    (fun i s=>(i:Int) < s.2∧s.2≤24) (fun i s hi hs=>by
     have hk:=zh6 (z:=aO.zero) hi
     obtain ⟨c',e'⟩:=hF _ hk s.2 (by omega) hs.2
     have p2:=zac0 (e.bA.getD i aO.zero)
     have p3:=zah7 (e.bA.getD i aO.zero)
     refine ⟨?_,fun s' hs'=>?_⟩
     ·unfold zJ2
      simp only
      rw [bV (by simpa using hi),gdp (by omega),w2]
      simp only [Int.toNat_natCast,e',Option.bind_some,bY,zc4 i (show i < 4611686018427387904 by omega)]
      by_cases cc:a+1+zq2 (e.bA.getD i aO.zero)≤5∧s.2+zn7 (e.bA.getD i aO.zero)≤24
      ·simp only [cc,cV,cB,bU (show ¬ zq2 (e.bA.getD i aO.zero)=0 by omega)]; rfl
      ·simp only [cc,cA,cB]; rfl
     ·rw [e',Option.bind_some] at hs'
      by_cases cc:a+1+zq2 (e.bA.getD i aO.zero)≤5∧s.2+zn7 (e.bA.getD i aO.zero)≤24
      ·simp only [cc,cV,cB,bU (show ¬ zq2 (e.bA.getD i aO.zero)=0 by omega),dC,eX] at hs'
       subst hs'
       simp only
       omega
      ·simp only [cc,cA,cB,dC,reduceCtorEq] at hs')
    (fun s hs=>by unfold zJ2; simp) (0,c+1) (by simp only; omega)
   rw [show ((0,0,c+1):Int×Int×Int)=(fun (i:Nat) (s:Int×Int)=>(s.1,(i:Int),s.2)) 0 (0,c+1) from rfl,key]
   obtain ⟨c',e'⟩:=zbw8 h1 (by omega) (fun k c=>zv7 n k (a+1) c) e.bA hF 0 0 (c+1) (by decide) (by omega) (by omega)
   refine ⟨c',?_⟩
   rw [e',Option.bind_some,zaV8 e,zL0 e]
   have p3:=zaN2 e.bA
   by_cases hh:a+1+zt1 e.bA≤5∧c+1+zw8 e.bA≤24
   ·rw [bV hh,bV (show a+(1+zt1 e.bA)≤5∧c+(1+zw8 e.bA)≤24 by omega)]
    have:(if 0 < zt1 e.bA then zt1 e.bA else 0)=zt1 e.bA:=by split <;> omega
    rw [this]
    show some (IntKind.i64.wrap (zt1 e.bA+1),c+1+zw8 e.bA)=_
    rw [zf5 (by omega) (by omega),show zt1 e.bA+1=1+zt1 e.bA by omega,show c+1+zw8 e.bA=c+(1+zw8 e.bA) by omega]
   ·rw [bU hh,bU (by omega)]
def fitE (e:aO):Bool:=decide (zq2 e≤4)&&decide (zn7 e≤24)
theorem zdg1 (e:aO):zk2 e=some (if fitE e=true then zq2 e else 0):=by
 unfold zk2 ze3
 obtain ⟨c',h⟩:=zbT9 _ e (dW _) 1 0 (by decide) (by decide) (by decide) (by decide)
 rw [h,Option.bind_some]
 unfold fitE
 by_cases c:1+zq2 e≤5∧0+zn7 e≤24
 ·rw [bV c,bV (by simp; omega)]
 ·rw [bU c,bU (by simp; omega)]
theorem zcd6 {a:Int} (h1:1≤a) (h4:a≤4) (F:aO→Option (Int×Int)):∀ (l:List aO),(∀ k ∈ l,F k=some (if a+1+zq2 k≤5∧zn7 k≤24 then (zn7 k,zq2 k) else (25,0))) →
  ∀ (i:Nat) (c m:Int),0≤m→1≤c→c≤24→walk (fun _ k (s:Int×Int)=>(F k).bind fun v=>if 24 < s.1+v.1 then some (.inr (Sum.inr (25,0))) else some (.inl (s.1+v.1,if s.2 < v.2 then v.2 else s.2))) (fun s=>Sum.inl (β:=Int×Int) s) l i (c,m) =
   some (if a+1+zt1 l≤5∧c+zw8 l≤24 then .inl (c+zw8 l,if m < zt1 l then zt1 l else m) else .inr (25,0))
 | [],_,i,c,m,hm,hc,h24=>by rw [zbs4,zaZ3,bV (by omega)]; simp only [walk]; rw [bU (by omega),Int.add_zero]
 | k :: l,hF,i,c,m,hm,hc,h24=>by
  have e1:=hF k (.head _)
  have p1:=zah7 k
  have p2:=zac0 k
  have p3:=zaN2 l
  have p4:=zC2 l
  rw [zaG3,zam8]
  by_cases hk:a+1+zq2 k≤5∧c+zn7 k≤24
  ·rw [bV (by omega)] at e1
   have e2:=zcd6 h1 h4 F l (fun x hx=>hF x (.tail _ hx)) (i+1) (c+zn7 k) (if m < zq2 k then zq2 k else m) (by split <;> omega) (by omega) hk.2
   simp only [walk,e1,Option.bind_some,bU (show ¬ 24 < c+zn7 k by omega),e2]
   by_cases hl:a+1+zt1 l≤5∧c+zn7 k+zw8 l≤24
   ·rw [bV hl,bV (show a+1+max (zq2 k) (zt1 l)≤5∧c+(zn7 k+zw8 l)≤24 by omega),show c+(zn7 k+zw8 l)=c+zn7 k+zw8 l by omega]
    refine cP some (cP Sum.inl (Prod.ext rfl ?_))
    show (if (if m < zq2 k then zq2 k else m) < zt1 l then zt1 l else if m < zq2 k then zq2 k else m)=if m < max (zq2 k) (zt1 l) then max (zq2 k) (zt1 l) else m
    by_cases q1:m < zq2 k <;> by_cases q2:m < zt1 l <;> by_cases q3:zq2 k < zt1 l <;> simp only [q1,q2,q3,cB,cA] <;> (repeat' split) <;> omega
   ·rw [bU hl,bU (by omega)]
  ·rw [bU (by omega)]
   simp only [walk,e1,Option.bind_some]
   by_cases hh:a+1+zq2 k≤5∧zn7 k≤24
   ·rw [bV hh,bV (by simp only; omega)]
   ·rw [bU hh,bV (by simp only; omega)]
theorem zcK6:∀ (n:Nat) (e:aO),_root_.SizeOf.sizeOf e < n→∀ a,1≤a→a≤5→zO7 n e a=some (if a+zq2 e≤5∧zn7 e≤24 then (zn7 e,zq2 e) else (25,0))
 | 0,_,h,_,_,_=>by omega
 | n+1,e,h,a,h1,h5=>by
  show zad7 (zO7 n) e a=_
  unfold zad7
  have p1:=zah7 e
  have p4:=zC2 e.bA
  have w2:IntKind.i64.wrap (a+1)=a+1:=zf5 (by omega) (by omega)
  by_cases c4:4 < a∨24 < (e.bA.length:Int)
  ·rw [bV (by simpa using c4),bU (by rw [zL0]; omega)]
  ·rw [bU (by simpa using c4)]
   have hF:∀ k ∈ e.bA,zO7 n k (a+1)=some (if a+1+zq2 k≤5∧zn7 k≤24 then (zn7 k,zq2 k) else (25,0)) :=
    fun k hk=>zcK6 n k (zai7 h hk) (a+1) (by omega) (by omega)
   have key:=zB3 (body:=zY8 (zO7 n) e a) e.bA aO.zero (fun i (s:Int×Int)=>(s.1,s.2,(i:Int)))
    (fun _ k (s:Int×Int)=>(zO7 n k (a+1)).bind fun v=>if 24 < s.1+v.1 then some (.inr (Sum.inr (25,0))) else some (.inl (s.1+v.1,if s.2 < v.2 then v.2 else s.2))) (fun s=>Sum.inl (β:=Int×Int) s)
    (fun i s=>1≤s.1∧s.1≤24) (fun i s hi hs=>by
     have hk:=zh6 (z:=aO.zero) hi
     have e':=hF _ hk
     have p2:=zac0 (e.bA.getD i aO.zero)
     refine ⟨?_,fun s' hs'=>?_⟩
     ·unfold zY8
      simp only
      rw [bV (by simpa using hi),gdp (by omega),w2]
      simp only [Int.toNat_natCast,e',Option.bind_some,bY]
      unfold zar7
      by_cases cc:a+1+zq2 (e.bA.getD i aO.zero)≤5∧zn7 (e.bA.getD i aO.zero)≤24
      ·rw [bV cc]
       simp only [zc4 i (show i < 4611686018427387904 by omega),zf5 (x:=s.1+zn7 (e.bA.getD i aO.zero)) (by omega) (by omega),bY]
       repeat' split
       all_goals first|rfl|omega
      ·rw [bU cc]
       simp only [zf5 (x:=s.1+25) (by omega) (by omega),bY,bV (show 24 < s.1+25 by omega),jN]
       rfl
     ·rw [e',Option.bind_some] at hs'
      by_cases cc:a+1+zq2 (e.bA.getD i aO.zero)≤5∧zn7 (e.bA.getD i aO.zero)≤24
      ·simp only [cc,cV,cB] at hs'
       split at hs'
       ·cases hs'
       ·simp only [dC,eX] at hs'
        subst hs'
        simp only
        omega
      ·simp only [cc,cA,bV (show 24 < s.1+25 by omega),dC,reduceCtorEq] at hs')
    (fun s hs=>by unfold zY8; simp) (1,0) (by simp only; omega)
   rw [show ((1,0,0):Int×Int×Int)=(fun (i:Nat) (s:Int×Int)=>(s.1,s.2,(i:Int))) 0 (1,0) from rfl,key]
   rw [zcd6 h1 (by omega) (fun k=>zO7 n k (a+1)) e.bA hF 0 1 0 (by omega) (by omega) (by omega),Option.bind_some,zaV8 e,zL0 e]
   have p3:=zaN2 e.bA
   by_cases hh:a+1+zt1 e.bA≤5∧1+zw8 e.bA≤24
   ·rw [bV hh,bV (show a+(1+zt1 e.bA)≤5∧1+zw8 e.bA≤24 by omega)]
    have:(if 0 < zt1 e.bA then zt1 e.bA else 0)=zt1 e.bA:=by split <;> omega
    rw [this]
    show some (1+zw8 e.bA,IntKind.i64.wrap (zt1 e.bA+1))=_
    rw [zf5 (by omega) (by omega),show zt1 e.bA+1=1+zt1 e.bA by omega]
   ·rw [bU hh,bU (by omega)]
theorem zdg2 (e:aO):zn1 e=some (if fitE e=true then zn7 e else 0):=by
 unfold zn1 zn8
 have p:=zac0 e
 rw [zcK6 _ e (dW _) 1 (by decide) (by decide),Option.bind_some]
 unfold fitE
 by_cases c:1+zq2 e≤5∧zn7 e≤24
 ·rw [bV c]
  simp only [show ¬ 24 < zn7 e by omega,show zq2 e≤4 by omega,c.2,cC,cJ,fU,bS,cB,cA]
 ·rw [bU c]
  have:(decide (zq2 e≤4)&&decide (zn7 e≤24))=false:=by rw [dY]; simp; omega
  rw [this]
  rfl
def zaN3 (a:aM):List aM→Option Bool
 | []=>none
 | x :: l=>if a=x then some true else if (a.name.toList == x.name.toList)=true then some false else zaN3 a l
def zbw9 (a:aM) (l:List aM):Int×List aM :=
 match zaN3 a l with
 | some true=>(0,l)
 | some false=>(13,l)
 | none=>if l.length=8 then (4,l) else (0,l++[a])
def zbU0 (a:aM) (l:List aM):Option (List aM):=if (zbw9 a l).1=0 then some (zbw9 a l).2 else none
def zat8:List aM→List aM→Option (List aM)
 | [],l=>some l
 | a :: az,l=>(zbU0 a l).bind (zat8 az)
theorem zbU1:∀ (x y l:List aM),zat8 (x++y) l=(zat8 x l).bind (zat8 y)
 | [],y,l=>rfl
 | a :: x,y,l=>by
  simp only [List.cons_append,zat8]
  cases zbU0 a l with
  | none=>rfl
  | some l'=>exact zbU1 x y l'
theorem zdg3 {a:aM} {l:List aM} (h:l.length≤8):(zbw9 a l).2.length≤8:=by
 unfold zbw9
 split
 ·exact h
 ·exact h
 ·split
  ·exact h
  ·simp; omega
theorem zbC7:∀ {x l r:List aM},l.length≤8→zat8 x l=some r→r.length≤8
 | [],l,r,h,e=>by cases e; exact h
 | a :: x,l,r,h,e=>by
  simp only [zat8] at e
  unfold zbU0 at e
  split at e
  ·exact zbC7 (zdg3 h) e
  ·cases e
theorem zdq2 (a:aM) (l:List aM) (h:l.length≤8):zg7 a l=some (zbw9 a l):=by
 unfold zg7
 have hw:∀ (t:List aM) (i:Nat),walk (fun _ x (_:Unit)=>if a=x then some (.inr (Sum.inr ((0:Int),l))) else if (a.name.toList == x.name.toList)=true then some (.inr (Sum.inr ((13:Int),l))) else some (.inl ())) (fun _=>Sum.inl (β:=Int×List aM) ()) t i () =
   some (match zaN3 a t with|some true=>.inr (0,l)|some false=>.inr (13,l)|none=>.inl ()):=by
  intro t
  induction t with
  | nil=>intro i; rfl
  | cons x t ih =>
   intro i
   simp only [walk,zaN3]
   by_cases c:a=x
   ·simp only [c,cB]
   ·by_cases c2:(a.name.toList == x.name.toList)=true
    ·simp only [c,c2,cB,cA]
    ·simp only [c,c2,cA]; exact ih (i+1)
 have key:=zal0 (body:=zT5 a l) l aM.zero (fun i (_:Unit)=>(i:Int))
  (fun _ x (_:Unit)=>if a=x then some (.inr (Sum.inr ((0:Int),l))) else if (a.name.toList == x.name.toList)=true then some (.inr (Sum.inr ((13:Int),l))) else some (.inl ())) (fun _=>Sum.inl (β:=Int×List aM) ())
  (fun i s hi=>by
   unfold zT5
   rw [bV (by simpa using hi),gdp (by omega),zc4 i (by omega)]
   simp only [Int.toNat_natCast,bY]
   repeat' split
   all_goals rfl)
  (fun s=>by unfold zT5; simp) ()
 rw [show (0:Int)=(fun (i:Nat) (_:Unit)=>(i:Int)) 0 () from rfl,key,hw,Option.bind_some]
 unfold zbw9
 cases zaN3 a l with
 | none =>
  simp only
  unfold zaq0
  by_cases c:l.length=8
  ·rw [bV (by simp [c]),bV c]
  ·rw [bU (by simp; omega),bU c,gdp (by omega)]
 | some b=>cases b <;> rfl
def zak3 (e:aO) (l:List aM):Option (List aM):=if okE e=true then zat8 (zaD7 e) l else none
def zbG4 (ks:List aO) (l:List aM):Option (List aM):=if okL ks=true then zat8 (zas5 ks) l else none
theorem zcC8 (k:aO) (ks:List aO) (l:List aM):zbG4 (k :: ks) l=(zak3 k l).bind (zbG4 ks):=by
 unfold zbG4 zak3
 simp only [okL,zas5,zbU1]
 cases okE k
 ·simp
 ·simp only [cH,cB]
  cases zat8 (zaD7 k) l with
  | none=>simp
  | some r=>simp only [Option.bind_some]
theorem zck4 (a:aM):zi7 a=some (zX5 a.name&&zaz2 a.aK):=by
 unfold zi7
 rw [zbc5,Option.bind_some]
 congr 2
theorem zbG5 (F:aO→List aM→Option (Bool×List aM)):∀ (ks:List aO),(∀ k ∈ ks,∀ l,l.length≤8→∃ r,F k l=some (match zak3 k l with|some l'=>(true,l')|none=>(false,r))) →
  ∀ (i:Nat) (l:List aM),l.length≤8→∃ r,walk (fun _ k (s:List aM)=>(F k s).bind fun v=>if (!v.1)=true then some (.inr (Sum.inr (false,v.2))) else some (.inl v.2)) (fun s=>Sum.inl (β:=Bool×List aM) s) ks i l =
   some (match zbG4 ks l with|some l'=>.inl l'|none=>.inr (false,r))
 | [],_,i,l,hl=>⟨[],by simp [walk,zbG4,okL,zas5,zat8]⟩
 | k :: ks,hF,i,l,hl=>by
  obtain ⟨r,e⟩:=hF k (.head _) l hl
  rw [zcC8]
  cases hp:zak3 k l with
  | none =>
   rw [hp] at e
   refine ⟨r,?_⟩
   simp only [walk,e,Option.bind_some,Option.bind_none,dE,cB]
  | some l' =>
   rw [hp] at e
   have hl':l'.length≤8:=by
    unfold zak3 at hp
    split at hp
    ·exact zbC7 hl hp
    ·cases hp
   obtain ⟨r2,e2⟩:=zbG5 F ks (fun x hx=>hF x (.tail _ hx)) (i+1) l' hl'
   refine ⟨r2,?_⟩
   simp only [walk,e,Option.bind_some,cK,bS,cA,e2]
theorem zdg4 {e:aO} {l l':List aM} (hl:l.length≤8) (hp:zak3 e l=some l'):l'.length≤8:=by
 unfold zak3 at hp
 split at hp
 ·exact zbC7 hl hp
 ·cases hp
theorem zct5:∀ (n:Nat) (e:aO),_root_.SizeOf.sizeOf e < n→zn7 e≤24→∀ l,l.length≤8→∃ r,zv2 n e l=some (match zak3 e l with|some l'=>(true,l')|none=>(false,r))
 | 0,_,h,_,_,_=>by omega
 | n+1,e,h,hn,l,hl=>by
  show ∃ r,zQ2 (zv2 n) e l=_
  unfold zQ2
  have p4:=zC2 e.bA
  have hne:=zL0 e
  by_cases c:e.bA.length=0
  ·rw [bV (by simpa using c),zck4]
   have hp:zak3 e l=if e.k=0∧zX5 e.bB.name=true∧zaz2 e.bB.aK=true then zbU0 e.bB l else none:=by
    unfold zak3
    rw [zck3,zaN1,bV c,bV c]
    simp only [zat8,bT,bY,fO]
    split
    ·cases zbU0 e.bB l <;> rfl
    ·rfl
   rw [hp]
   by_cases c1:e.k=0
   ·simp only [c1,cC,cB,Option.bind_some,cH,gD]
    by_cases c2:zX5 e.bB.name=true∧zaz2 e.bB.aK=true
    ·simp only [c2.1,c2.2,fU,cV,cB,zdq2 e.bB l hl,Option.bind_some,cH]
     refine ⟨(zbw9 e.bB l).2,?_⟩
     unfold zbU0
     by_cases c3:(zbw9 e.bB l).1=0
     ·simp only [c3,cC,cB]
     ·simp only [c3,cJ,cA]
    ·have:(zX5 e.bB.name&&zaz2 e.bB.aK)=false:=by rw [dY]; simpa using c2
     simp only [this,c2,bS,cA,eK]
     exact ⟨l,rfl⟩
   ·simp only [c1,cJ,bS,cA,Option.bind_some,eK,iU]
    exact ⟨l,rfl⟩
  ·rw [bU (by simpa using c)]
   have hp:zak3 e l=if 1≤e.k∧e.k≤(e.bA.length:Int)∧e.bB=aM.zero then zbG4 e.bA l else none:=by
    unfold zak3 zbG4
    rw [zck3,zaN1,bU c,bU c]
    by_cases q1:1≤e.k <;> by_cases q2:e.k≤(e.bA.length:Int) <;> by_cases q3:e.bB=aM.zero <;> simp [q1,q2,q3]
   rw [hp]
   by_cases c1:1≤e.k∧e.k≤(e.bA.length:Int)∧e.bB=aM.zero
   ·rw [bV c1,bU (by simp [c1.2.2]; omega)]
    have hF:∀ k ∈ e.bA,∀ l,l.length≤8→∃ r,zv2 n k l=some (match zak3 k l with|some l'=>(true,l')|none=>(false,r)):=by
     intro k hk l hl
     refine zct5 n k (zai7 h hk) ?_ l hl
     have:∀ (ks:List aO),k ∈ ks→zn7 k≤zw8 ks:=by
      intro ks
      induction ks with
      | nil=>intro h; cases h
      | cons x ks ih =>
       intro h
       rw [zam8]
       have p1:=zac0 x
       have p2:=zC2 ks
       rcases cF.1 h with rfl|h
       ·omega
       ·have:=ih h; omega
     have:=this e.bA hk
     omega
    have key:=zB3 (body:=zM3 (zv2 n) e) e.bA aO.zero (fun i (s:List aM)=>((i:Int),s))
     (fun _ k (s:List aM)=>(zv2 n k s).bind fun v=>if (!v.1)=true then some (.inr (Sum.inr (false,v.2))) else some (.inl v.2)) (fun s=>Sum.inl (β:=Bool×List aM) s)
     (fun i s=>s.length≤8) (fun i s hi hs=>by
      obtain ⟨r,er⟩:=hF _ (zh6 (z:=aO.zero) hi) s hs
      refine ⟨?_,fun s' hs'=>?_⟩
      ·unfold zM3
       simp only
       rw [bV (by simpa using hi),gdp (by omega)]
       simp only [Int.toNat_natCast,er,Option.bind_some,zc4 i (show i < 4611686018427387904 by omega)]
       cases zak3 (e.bA.getD i aO.zero) s <;> rfl
      ·rw [er,Option.bind_some] at hs'
       cases hq:zak3 (e.bA.getD i aO.zero) s with
       | none=>rw [hq] at hs'; simp at hs'
       | some l' =>
        rw [hq] at hs'
        simp only [cK,bS,cA,dC,eX] at hs'
        subst hs'
        exact zdg4 hs hq)
     (fun s hs=>by unfold zM3; simp) l hl
    rw [show ((0,l):Int×List aM)=(fun (i:Nat) (s:List aM)=>((i:Int),s)) 0 l from rfl,key]
    obtain ⟨r,er⟩:=zbG5 (zv2 n) e.bA hF 0 l hl
    rw [er,Option.bind_some]
    refine ⟨r,?_⟩
    cases zbG4 e.bA l <;> rfl
   ·rw [bU c1,bV (by
     simp only [dQ,bY,cS,cW]
     by_cases q:e.bB=aM.zero
     ·left; have:=mt (fun h:1≤e.k∧e.k≤(e.bA.length:Int)=>(⟨h.1,h.2,q⟩:1≤e.k∧e.k≤(e.bA.length:Int)∧e.bB=aM.zero)) c1; omega
     ·exact .inr q)]
    exact ⟨l,rfl⟩
theorem zbi4 (e:aO):zo1 e=some (fitE e&&(zak3 e []).isSome):=by
 unfold zo1
 rw [zdg1,Option.bind_some]
 have p:=zah7 e
 cases hf:fitE e with
 | false=>rfl
 | true =>
  simp only [cB,show ¬ zq2 e=0 by omega,cJ,dE,cH]
  unfold zq5
  have hn:zn7 e≤24:=by unfold fitE at hf; simp at hf; omega
  obtain ⟨r,er⟩:=zct5 _ e (dW _) hn [] (by simp)
  rw [er,Option.bind_some]
  cases zak3 e [] <;> rfl
def addA (a:aM) (l:List aM):List aM:=if a ∈ l then l else l++[a]
def addS:List aM→List aM→List aM
 | [],l=>l
 | a :: az,l=>addS az (addA a l)
theorem zct6:∀ (x y l:List aM),addS (x++y) l=addS y (addS x l)
 | [],_,_=>rfl
 | a :: x,y,l=>zct6 x y (addA a l)
theorem zdg5 (a:aM) (l:List aM):∃ t,addA a l=l++t:=by
 unfold addA
 split
 ·exact ⟨[],by simp⟩
 ·exact ⟨[a],rfl⟩
theorem zbU2:∀ (x l:List aM),∃ t,addS x l=l++t
 | [],l=>⟨[],by simp [addS]⟩
 | a :: x,l=>by
  obtain ⟨t1,h1⟩:=zdg5 a l
  obtain ⟨t2,h2⟩:=zbU2 x (addA a l)
  exact ⟨t1++t2,by rw [addS,h2,h1,cE]⟩
theorem zck5:∀ (x l:List aM),(addS x l).length≤l.length+x.length
 | [],l=>by simp [addS]
 | a :: x,l=>by
  have h1:=zck5 x (addA a l)
  have h2:(addA a l).length≤l.length+1:=by unfold addA; split <;> simp
  simp only [addS,List.length_cons]; omega
def dnN (l:List aM):Prop:=l.Pairwise fun x y=>(x.name.toList == y.name.toList)=false
theorem zcd7 {a:aM}:∀ {l:List aM},dnN l→a ∈ l→zaN3 a l=some true
 | x :: l,h,hm=>by
  unfold dnN at h
  rw [cU] at h
  unfold zaN3
  by_cases c:a=x
  ·rw [bV c]
  ·rw [bU c]
   rcases cF.1 hm with e|hm
   ·exact absurd e c
   ·have:=h.1 a hm
    rw [bU (by rw [dG]; intro e; rw [e] at this; simp at this)]
    exact zcd7 h.2 hm
theorem zbs5 {a:aM}:∀ {l:List aM},zaN3 a l=none→∀ x ∈ l,(x.name.toList == a.name.toList)=false
 | y :: l,h,x,hx=>by
  unfold zaN3 at h
  split at h
  ·cases h
  ·split at h
   ·cases h
   ·rename_i h1 h2
    rcases cF.1 hx with rfl|hx
    ·rw [dY]
     intro e
     rw [dG] at e
     exact h2 (by rw [dG]; exact e.symm)
    ·exact zbs5 h x hx
theorem zbG6 {a:aM}:∀ {l:List aM},dnN l→zaN3 a l=some false→a ∉ l∧∃ x ∈ l,(x.name.toList == a.name.toList)=true
 | y :: l,hd,h=>by
  refine ⟨fun hm=>?_,?_⟩
  ·rw [zcd7 hd hm] at h; cases h
  ·unfold zaN3 at h
   split at h
   ·cases h
   ·split at h
    ·rename_i h2
     exact ⟨y,.head _,by rw [dG] at h2 ⊢; exact h2.symm⟩
    ·unfold dnN at hd
     rw [cU] at hd
     obtain ⟨_,x,hx,e⟩:=zbG6 hd.2 h
     exact ⟨x,.tail _ hx,e⟩
theorem zcC9 {a:aM} {l:List aM} (h:zaN3 a l=none):a ∉ l:=fun hm=>by
 have:=zbs5 h a hm
 simp at this
theorem zdq3 {l t:List aM} (h:dnN (l++t)):dnN l:=(fB.1 h).1
theorem zbs6:∀ (x l:List aM),l.length≤8→dnN l→((zat8 x l).isSome=true ↔ (addS x l).length≤8∧dnN (addS x l))
 | [],l,h8,hd=>by simp [zat8,addS,h8,hd]
 | a :: x,l,h8,hd=>by
  simp only [zat8,addS]
  unfold zbU0 zbw9
  cases hn:zaN3 a l with
  | some b =>
   cases b with
   | true =>
    have hm:a ∈ l:=by
     refine Classical.byContradiction fun hm=>?_
     have:∀ l:List aM,a ∉ l→zaN3 a l≠some true:=by
      intro l
      induction l with
      | nil=>intro _ h; cases h
      | cons y l ih =>
       intro hm h
       unfold zaN3 at h
       rw [bU (fun (e:a=y)=>hm (by rw [e]; exact .head _))] at h
       split at h
       ·cases h
       ·exact ih (fun h=>hm (.tail _ h)) h
     exact this l hm hn
    simp only [cB,Option.bind_some]
    unfold addA
    rw [bV hm]
    exact zbs6 x l h8 hd
   | false =>
    obtain ⟨hm,y,hy,e⟩:=zbG6 hd hn
    simp only [show ¬ (13:Int)=0 by decide,cA,Option.bind_none,Option.isSome_none,bS,false_iff]
    rintro ⟨_,h2⟩
    unfold addA at h2
    rw [bU hm] at h2
    obtain ⟨t,ht⟩:=zbU2 x (l++[a])
    rw [ht] at h2
    have h3:=(fB.1 (zdq3 h2)).2.2 y hy a (dP.2 rfl)
    rw [e] at h3; cases h3
  | none =>
   have hm:=zcC9 hn
   have ha:addA a l=l++[a]:=by unfold addA; rw [bU hm]
   rw [ha]
   by_cases c:l.length=8
   ·simp only [c,cB,show ¬ (4:Int)=0 by decide,cA,Option.bind_none,Option.isSome_none,bS,false_iff]
    rintro ⟨h1,_⟩
    obtain ⟨t,ht⟩:=zbU2 x (l++[a])
    rw [ht] at h1
    simp at h1
    omega
   ·simp only [c,cA,cB,Option.bind_some]
    refine zbs6 x (l++[a]) (by simp; omega) ?_
    unfold dnN
    rw [fB]
    exact ⟨hd,iL _ _,fun y hy z hz=>by rw [dP.1 hz]; exact zbs5 hn y hy⟩
def addO (e:aO) (l:List aM):Option (List aM):=if okE e=true then some (addS (zaD7 e) l) else none
def addL (ks:List aO) (l:List aM):Option (List aM):=if okL ks=true then some (addS (zas5 ks) l) else none
theorem zcR7 (k:aO) (ks:List aO) (l:List aM):addL (k :: ks) l=(addO k l).bind (addL ks):=by
 unfold addL addO
 simp only [okL,zas5,zct6]
 cases okE k <;> simp
def bad1 (r:Nat⊕(Bool×List aM)):Prop:=match r with|.inl _=>True|.inr v=>v.1=false
def got1 (F:Option (Nat⊕(Bool×List aM))) (o:Option (List aM)):Prop:=match o with|some l=>F=some (.inr (true,l))|none=>∃ r,F=some r∧bad1 r
theorem zcR8 (a:aM) (l:List aM) {X:Type} (x:X) {body:Int→Option (Int⊕(Unit⊕X))} (hl:l.length < 4611686018427387904)
  (hb:∀ i:Nat,i < l.length→body (i:Int)=if l.getD i aM.zero=a then some (.inr (.inr x)) else some (.inl ((i+1:Nat):Int))) (he:body (l.length:Int)=some (.inr (.inl ()))) :
  zc0 body 0=some (if a ∈ l then .inr x else .inl ()):=by
 have hw:∀ (t:List aM) (i:Nat),walk (fun _ y (_:Unit)=>if y=a then some (.inr (Sum.inr x)) else some (.inl ())) (fun _=>Sum.inl (β:=X) ()) t i ()=some (if a ∈ t then .inr x else .inl ()):=by
  intro t
  induction t with
  | nil=>intro i; simp [walk]
  | cons y t ih =>
   intro i
   simp only [walk]
   by_cases c:y=a
   ·rw [bV c]; simp [c]
   ·rw [bU c]
    simp only [ih (i+1),cF,show ¬ a=y from fun e=>c e.symm,iO]
 have key:=zal0 (body:=body) l aM.zero (fun i (_:Unit)=>(i:Int)) (fun _ y (_:Unit)=>if y=a then some (.inr (Sum.inr x)) else some (.inl ())) (fun _=>Sum.inl (β:=X) ())
  (fun i s hi=>by rw [hb i hi]; split <;> rfl) (fun s=>he) ()
 rw [show (0:Int)=(fun (i:Nat) (_:Unit)=>(i:Int)) 0 () from rfl,key,hw]
theorem zbU3 (F:aO→List aM→Option (Nat⊕(Bool×List aM))) {Y:Type} {B:Nat}:∀ (ks:List aO),(∀ k ∈ ks,∀ l,(l.length:Int)+zn7 k≤B→got1 (F k l) (addO k l)) →
  ∀ (i:Nat) (l:List aM),(l.length:Int)+zw8 ks≤B→(match addL ks l with
   | some l'=>walk (fun _ k (s:List aM)=>(F k s).bind fun v=>match v with|.inl v=>some (.inr (Sum.inr (Sum.inl s.length)))|.inr v=>if (!v.1)=true then some (.inr (Sum.inr (.inl s.length))) else some (.inl v.2)) (fun s=>Sum.inl (β:=Nat⊕Y) s) ks i l=some (.inl l')
   | none=>∃ r,walk (fun _ k (s:List aM)=>(F k s).bind fun v=>match v with|.inl v=>some (.inr (Sum.inr (Sum.inl s.length)))|.inr v=>if (!v.1)=true then some (.inr (Sum.inr (.inl s.length))) else some (.inl v.2)) (fun s=>Sum.inl (β:=Nat⊕Y) s) ks i l=some (.inr (.inl r)))
 | [],_,i,l,hl=>by simp [walk,addL,okL,zas5,addS]
 | k :: ks,hF,i,l,hl=>by
  rw [zam8] at hl
  have p1:=zC2 ks
  have e:=hF k (.head _) l (by omega)
  rw [zcR7]
  cases hp:addO k l with
  | none =>
   rw [hp] at e
   obtain ⟨r,er,hb⟩:=e
   simp only [Option.bind_none]
   refine ⟨l.length,?_⟩
   simp only [walk,er,Option.bind_some]
   cases r with
   | inl r=>rfl
   | inr v =>
    have hv:v.1=false:=hb
    simp only [hv,dE,cB]
  | some l' =>
   rw [hp] at e
   have e':F k l=some (.inr (true,l')):=e
   have hl':(l'.length:Int)≤l.length+zn7 k:=by
    unfold addO at hp
    split at hp
    ·cases hp
     have h1:=zck5 (zaD7 k) l
     have h2:=zbT8 k
     omega
    ·cases hp
   have e2:=zbU3 (Y:=Y) F ks (fun x hx=>hF x (.tail _ hx)) (i+1) l' (by omega)
   simp only [walk,e',Option.bind_some,cK,bS,cA]
   exact e2
theorem zaC1 {e k:aO} (hk:k ∈ e.bA):zn7 k+1≤zn7 e:=by
 have:∀ (ks:List aO),k ∈ ks→zn7 k≤zw8 ks:=by
  intro ks
  induction ks with
  | nil=>intro h; cases h
  | cons x ks ih =>
   intro h
   rw [zam8]
   have p1:=zac0 x
   have p2:=zC2 ks
   rcases cF.1 h with rfl|h
   ·omega
   ·have:=ih h; omega
 have:=this e.bA hk
 rw [zL0 e]; omega
theorem zbi5 {e:aO} (c:e.bA.length=0):okE e=true ↔ e.k=0∧zX5 e.bB.name=true∧zaz2 e.bB.aK=true:=by
 rw [zck3,bV c]; simp [fO]
theorem zbi6 {e:aO} (c:¬ e.bA.length=0):okE e=true ↔ (1≤e.k∧e.k≤(e.bA.length:Int)∧e.bB=aM.zero)∧okL e.bA=true:=by
 rw [zck3,bU c]; simp [fO]
theorem zbC8 {e:aO} (c:e.bA.length=0) (l:List aM):addO e l=if e.k=0∧zX5 e.bB.name=true∧zaz2 e.bB.aK=true then some (addA e.bB l) else none:=by
 unfold addO
 rw [zaN1,bV c]
 simp only [zbi5 c]
 rfl
theorem zcd8 {e:aO} (c:¬ e.bA.length=0) (l:List aM):addO e l=if 1≤e.k∧e.k≤(e.bA.length:Int)∧e.bB=aM.zero then addL e.bA l else none:=by
 unfold addO addL
 rw [zaN1,bU c]
 simp only [zbi6 c]
 by_cases c1:1≤e.k∧e.k≤(e.bA.length:Int)∧e.bB=aM.zero <;> simp only [c1,gD,iU,cB,cA,cV]
theorem zdg6:∀ (n:Nat) (e:aO),_root_.SizeOf.sizeOf e < n→∀ l,(l.length:Int)+zn7 e≤100→got1 (zz2 n e l) (addO e l)
 | 0,_,h,_,_=>by omega
 | n+1,e,h,l,hl=>by
  show got1 (zx4 (zz2 n) e l) _
  unfold zx4
  have p4:=zC2 e.bA
  have hne:=zL0 e
  by_cases c:e.bA.length=0
  ·rw [bV (by simpa using c),zbC8 c]
   by_cases c1:e.k=0
   ·simp only [c1,cC,cB,zaD3,Option.bind_some,cK,dL,gD]
    by_cases c2:zX5 e.bB.name=true∧zaz2 e.bB.aK=true
    ·rw [bV c2,bU (by have:=c2.2; unfold zaz2 at this; simp [c2.1,this])]
     rw [zcR8 e.bB l (x:=Sum.inr (true,l)) (by omega) (fun i hi=>by
      unfold zaj9
      rw [bV (by simpa using hi),gdp (by omega),zc4 i (by omega)]
      simp only [Int.toNat_natCast,bY]) (by unfold zaj9; simp),Option.bind_some]
     unfold addA got1
     by_cases c3:e.bB ∈ l
     ·simp only [c3,cB]
     ·simp only [c3,cA]
      unfold zay3
      rw [gdp (by omega)]
    ·rw [bU c2,bV (by
      have:¬ (zX5 e.bB.name=true∧zp6 e.bB.aK=true):=c2
      simp only [dQ,cS]
      cases h1:zX5 e.bB.name <;> cases h2:zp6 e.bB.aK <;> simp_all)]
     exact ⟨_,rfl,rfl⟩
   ·simp only [c1,cJ,bS,cA,Option.bind_some,dE,fN,cB,iU]
    exact ⟨_,rfl,rfl⟩
  ·rw [bU (by simpa using c),zcd8 c]
   by_cases c1:1≤e.k∧e.k≤(e.bA.length:Int)∧e.bB=aM.zero
   ·rw [bV c1,bU (by simp [c1.2.2]; omega)]
    have hF:∀ k ∈ e.bA,∀ l,(l.length:Int)+zn7 k≤(100:Nat)→got1 (zz2 n k l) (addO k l):=fun k hk l hl=>zdg6 n k (zai7 h hk) l hl
    have key:=zB3 (body:=zaa4 (zz2 n) e) e.bA aO.zero (fun i (s:List aM)=>((i:Int),s))
     (fun _ k (s:List aM)=>(zz2 n k s).bind fun v=>match v with|.inl v=>some (.inr (Sum.inr (Sum.inl s.length)))|.inr v=>if (!v.1)=true then some (.inr (Sum.inr (.inl s.length))) else some (.inl v.2)) (fun s=>Sum.inl (β:=Nat⊕(Bool×List aM)) s)
     (fun i s=>True) (fun i s hi hs=>by
      refine ⟨?_,fun s' hs'=>trivial⟩
      unfold zaa4
      simp only
      rw [bV (by simpa using hi),gdp (by omega)]
      simp only [Int.toNat_natCast,zc4 i (show i < 4611686018427387904 by omega)]
      cases zz2 n (e.bA.getD i aO.zero) s with
      | none=>rfl
      | some v =>
       cases v with
       | inl v=>rfl
       | inr v =>
        simp only [Option.bind_some]
        split <;> rfl)
     (fun s hs=>by unfold zaa4; simp) l trivial
    rw [show ((0,l):Int×List aM)=(fun (i:Nat) (s:List aM)=>((i:Int),s)) 0 l from rfl,key]
    have er:=zbU3 (zz2 n) (Y:=Bool×List aM) (B:=100) e.bA hF 0 l (by omega)
    cases ha:addL e.bA l with
    | none =>
     rw [ha] at er
     obtain ⟨r,er⟩:=er
     rw [er,Option.bind_some]
     exact ⟨_,rfl,trivial⟩
    | some l' =>
     rw [ha] at er
     simp only at er
     rw [er,Option.bind_some]
     rfl
   ·rw [bU c1,bV (by
     simp only [dQ,bY,cS,cW]
     by_cases q:e.bB=aM.zero
     ·left; have:=mt (fun h:1≤e.k∧e.k≤(e.bA.length:Int)=>(⟨h.1,h.2,q⟩:1≤e.k∧e.k≤(e.bA.length:Int)∧e.bB=aM.zero)) c1; omega
     ·exact .inr q)]
    exact ⟨_,rfl,rfl⟩
def bad0 (r:Nat⊕(List aM×Bool)):Prop:=match r with|.inl _=>True|.inr v=>v.2=false
theorem zdq4 (e:aO) (hl:zn7 e≤50):match addO e [] with|some l=>zw2 e=some (.inr (l,true))|none=>∃ r,zw2 e=some r∧bad0 r:=by
 unfold zw2
 show match addO e [] with|some l=>zL3 _ e=some (.inr (l,true))|none=>∃ r,zL3 _ e=some r∧bad0 r
 unfold zL3
 have p4:=zC2 e.bA
 have hne:=zL0 e
 by_cases c:e.bA.length=0
 ·rw [bV (by simpa using c),zbC8 c]
  by_cases c1:e.k=0
  ·simp only [c1,cC,cB,zaD3,Option.bind_some,cK,dL,gD]
   by_cases c2:zX5 e.bB.name=true∧zaz2 e.bB.aK=true
   ·rw [bV c2,bU (by have:=c2.2; unfold zaz2 at this; simp [c2.1,this])]
    rw [zf6]
    unfold zao5
    rfl
   ·rw [bU c2,bV (by
     have:¬ (zX5 e.bB.name=true∧zp6 e.bB.aK=true):=c2
     simp only [dQ,cS]
     cases h1:zX5 e.bB.name <;> cases h2:zp6 e.bB.aK <;> simp_all)]
    exact ⟨_,rfl,rfl⟩
  ·simp only [c1,cJ,bS,cA,Option.bind_some,dE,fN,cB,iU]
   exact ⟨_,rfl,rfl⟩
 ·rw [bU (by simpa using c),zcd8 c]
  by_cases c1:1≤e.k∧e.k≤(e.bA.length:Int)∧e.bB=aM.zero
  ·rw [bV c1,bU (by simp [c1.2.2]; omega)]
   have hF:∀ k ∈ e.bA,∀ l,(l.length:Int)+zn7 k≤(100:Nat)→got1 (zr4 k l) (addO k l):=fun k hk l hl=>zdg6 _ k (dW _) l hl
   have key:=zB3 (body:=zV4 e) e.bA aO.zero (fun i (s:List aM)=>((i:Int),s))
    (fun _ k (s:List aM)=>(zr4 k s).bind fun v=>match v with|.inl v=>some (.inr (Sum.inr (Sum.inl s.length)))|.inr v=>if (!v.1)=true then some (.inr (Sum.inr (.inl s.length))) else some (.inl v.2)) (fun s=>Sum.inl (β:=Nat⊕(List aM×Bool)) s)
    (fun i s=>True) (fun i s hi hs=>by
     refine ⟨?_,fun s' hs'=>trivial⟩
     unfold zV4
     simp only
     rw [bV (by simpa using hi),gdp (by omega)]
     simp only [Int.toNat_natCast,zc4 i (show i < 4611686018427387904 by omega)]
     cases zr4 (e.bA.getD i aO.zero) s with
     | none=>rfl
     | some v =>
      cases v with
      | inl v=>rfl
      | inr v =>
       simp only [Option.bind_some]
       split <;> rfl)
    (fun s hs=>by unfold zV4; simp) [] trivial
   rw [show ((0,[]):Int×List aM)=(fun (i:Nat) (s:List aM)=>((i:Int),s)) 0 [] from rfl,key]
   have er:=zbU3 (zr4) (Y:=List aM×Bool) (B:=100) e.bA hF 0 [] (by simp; omega)
   cases ha:addL e.bA [] with
   | none =>
    rw [ha] at er
    obtain ⟨r,er⟩:=er
    simp only
    rw [er,Option.bind_some]
    exact ⟨_,rfl,trivial⟩
   | some l' =>
    rw [ha] at er
    simp only at er ⊢
    rw [er,Option.bind_some]
    rfl
  ·rw [bU c1,bV (by
    simp only [dQ,bY,cS,cW]
    by_cases q:e.bB=aM.zero
    ·left; have:=mt (fun h:1≤e.k∧e.k≤(e.bA.length:Int)=>(⟨h.1,h.2,q⟩:1≤e.k∧e.k≤(e.bA.length:Int)∧e.bB=aM.zero)) c1; omega
    ·exact .inr q)]
   exact ⟨_,rfl,rfl⟩
def vE (e:aO):Bool:=fitE e&&(zak3 e []).isSome
theorem zcd9 (e:aO):(zak3 e []).isSome=true ↔ ∃ l,addO e []=some l∧l.length≤8∧dnN l:=by
 unfold zak3 addO
 by_cases c:okE e=true
 ·rw [bV c,bV c,zbs6 _ [] (by simp) .nil]
  constructor
  ·exact fun h=>⟨_,rfl,h⟩
  ·rintro ⟨l,e,h⟩
   cases e; exact h
 ·rw [bU c,bU c]
  simp
theorem zct7 (v:List aM×Bool) (i:Nat) (hi:i < v.1.length) (hl:v.1.length≤1000) :
  zc0 (zV5 v (i:Int)) 0=some (if (v.1.take i).any (fun x=>(v.1.getD i aM.zero).name.toList == x.name.toList)=true then .inr ([],false) else .inl ()):=by
 have hw:∀ (t:List aM) (j:Nat),walk (fun _ x (_:Unit)=>if ((v.1.getD i aM.zero).name.toList == x.name.toList)=true then some (.inr (Sum.inr (([]:List aM),false))) else some (.inl ())) (fun _=>Sum.inl (β:=List aM×Bool) ()) t j () =
   some (if t.any (fun x=>(v.1.getD i aM.zero).name.toList == x.name.toList)=true then .inr ([],false) else .inl ()):=by
  intro t
  induction t with
  | nil=>intro j; rfl
  | cons x t ih =>
   intro j
   simp only [walk,List.any_cons]
   by_cases c:((v.1.getD i aM.zero).name.toList == x.name.toList)=true
   ·simp only [c,cB,fN]
   ·simp only [fT] at c
    simp only [c,dL,bS,cA]
    exact ih (j+1)
 have hlen:(v.1.take i).length=i:=by rw [dB]; omega
 have key:=zal0 (body:=zV5 v (i:Int)) (v.1.take i) aM.zero (fun j (_:Unit)=>(j:Int))
  (fun _ x (_:Unit)=>if ((v.1.getD i aM.zero).name.toList == x.name.toList)=true then some (.inr (Sum.inr (([]:List aM),false))) else some (.inl ())) (fun _=>Sum.inl (β:=List aM×Bool) ())
  (fun j s hj=>by
   rw [hlen] at hj
   unfold zV5
   rw [bV (by simp; omega),gdp (by omega),gdp (by omega),zc4 j (by omega),zcc4 _ _ _ _ hj]
   simp only [Int.toNat_natCast]
   split <;> rfl)
  (fun s=>by unfold zV5; rw [hlen]; simp) ()
 rw [show (0:Int)=(fun (j:Nat) (_:Unit)=>(j:Int)) 0 () from rfl,key,hw]
theorem zbG7 (v:List aM×Bool) (hl:v.1.length≤1000):(dnN v.1→zc0 (zN8 v) 0=some (.inl ()))∧(¬ dnN v.1→zc0 (zN8 v) 0=some (.inr ([],false))):=by
 have key:=zal0 (body:=zN8 v) v.1 aM.zero (fun i (_:Unit)=>(i:Int))
  (fun i a (_:Unit)=>if (v.1.take i).any (fun x=>a.name.toList == x.name.toList)=true then some (.inr (Sum.inr (([]:List aM),false))) else some (.inl ())) (fun _=>Sum.inl (β:=List aM×Bool) ())
  (fun i s hi=>by
   unfold zN8
   rw [bV (by simpa using hi),zct7 v i hi hl]
   split
   ·rfl
   ·show some _=_
    rw [zc4 i (by omega)]; rfl)
  (fun s=>by unfold zN8; simp) ()
 have hw:∀ (t prev:List aM),v.1=prev++t→dnN prev→(dnN v.1→walk (fun i a (_:Unit)=>if (v.1.take i).any (fun x=>a.name.toList == x.name.toList)=true then some (.inr (Sum.inr (([]:List aM),false))) else some (.inl ())) (fun _=>Sum.inl (β:=List aM×Bool) ()) t prev.length ()=some (.inl ())) ∧
   (¬ dnN v.1→walk (fun i a (_:Unit)=>if (v.1.take i).any (fun x=>a.name.toList == x.name.toList)=true then some (.inr (Sum.inr (([]:List aM),false))) else some (.inl ())) (fun _=>Sum.inl (β:=List aM×Bool) ()) t prev.length ()=some (.inr ([],false))):=by
  intro t
  induction t with
  | nil=>intro prev h hd; exact ⟨fun _=>rfl,fun hn=>absurd (by rw [h,dT]; exact hd) hn⟩
  | cons a t ih =>
   intro prev h hd
   have ht:v.1.take prev.length=prev:=by rw [h,List.take_left']; rfl
   simp only [walk,ht]
   by_cases c:prev.any (fun x=>a.name.toList == x.name.toList)=true
   ·have hn:¬ dnN v.1:=by
     intro hd2
     rw [h] at hd2
     obtain ⟨x,hx,e⟩:=hZ.1 c
     have:=(fB.1 hd2).2.2 x hx a (.head _)
     rw [dG] at e
     rw [← e] at this
     simp at this
    exact ⟨fun h=>absurd h hn,fun _=>by rw [bV c]⟩
   ·rw [bU c]
    have hd3:dnN (prev++[a]):=by
     unfold dnN
     rw [fB]
     refine ⟨hd,iL _ _,fun x hx y hy=>?_⟩
     rw [dP.1 hy,dY]
     intro e
     rw [dG] at e
     exact c (hZ.2 ⟨x,hx,by rw [dG]; exact e.symm⟩)
    have:=ih (prev++[a]) (by rw [h]; simp) hd3
    rw [show (prev++[a]).length=prev.length+1 by simp] at this
    exact this
 have:=hw v.1 [] rfl .nil
 rw [show (0:Int)=(fun (i:Nat) (_:Unit)=>(i:Int)) 0 () from rfl,key]
 exact this
theorem zX8 (e:aO):zB0 e=some (vE e):=by
 unfold zB0 zo3
 rw [zdg2,Option.bind_some]
 have p:=zac0 e
 unfold vE
 cases hf:fitE e with
 | false=>rfl
 | true =>
  have hn:zn7 e≤24:=by unfold fitE at hf; simp at hf; omega
  simp only [cB,show ¬ zn7 e=0 by omega,cJ,bS,cA,cH]
  have ha:=zdq4 e (by omega)
  have hp:=zcd9 e
  cases hadd:addO e [] with
  | none =>
   rw [hadd] at ha hp
   obtain ⟨r,er,hb⟩:=ha
   have hf:(zak3 e []).isSome=false:=by
    rw [dY]; intro h
    obtain ⟨l,e,_⟩:=hp.1 h
    cases e
   rw [er,hf,Option.bind_some]
   cases r with
   | inl r=>rfl
   | inr v =>
    have hv:v.2=false:=hb
    simp only [hv,dE,fN,cB,Option.bind_some]
  | some l =>
   rw [hadd] at ha hp
   simp only at ha
   have hl:l.length≤24:=by
    unfold addO at hadd
    split at hadd
    ·cases hadd
     have h1:=zck5 (zaD7 e) []
     have h2:=zbT8 e
     simp at h1
     omega
    ·cases hadd
   rw [ha,Option.bind_some]
   by_cases c:l.length≤8
   ·simp only [cK,dL,show ¬ (8:Int) < (l.length:Int) by omega,cJ,bS,cA]
    have ho:=zbG7 (l,true) (by simp only; omega)
    by_cases hd:dnN l
    ·rw [ho.1 hd,hp.2 ⟨l,rfl,c,hd⟩]
     rfl
    ·rw [ho.2 hd]
     have:(zak3 e []).isSome=false:=by
      rw [dY]; intro h
      obtain ⟨l',e',_,h3⟩:=hp.1 h
      cases e'
      exact hd h3
     rw [this]
     rfl
   ·simp only [cK,dL,show (8:Int) < (l.length:Int) by omega,cC,cB,Option.bind_some]
    have:(zak3 e []).isSome=false:=by
     rw [dY]; intro h
     obtain ⟨l',e',h3,_⟩:=hp.1 h
     cases e'
     exact c h3
    rw [this]
theorem zbU4 (e:aO):zo1 e=some (vE e):=zbi4 e
theorem zct8 (s:aD):zab0 s=zW0 s:=by
 funext g
 unfold zab0 zW0
 by_cases c:g < (s.aQ.length:Int)
 ·by_cases c0:0≤g
  ·simp only [c,c0,cV,cC,cB,zm1,zbU4,zX8,zaf6,zay9]
   generalize hn:s.aQ.getD g.toNat bC.zero=n
   generalize hm:s.aQ.getD ((IntKind.i64.wrap (g - 1)).toNat) bC.zero=m
   cases hP:zb6 n.aN
   ·simp
   ·cases hE:vE n.bO
    ·by_cases q1:n.gen < 0 <;> by_cases q2:1073741824 < n.gen <;> simp [q1,q2]
    ·by_cases q1:n.gen < 0
     ·simp [q1]
     ·by_cases q2:1073741824 < n.gen
      ·simp [q1,q2]
      ·by_cases q3:0 < g <;> simp [q1,q2,q3]
  ·simp only [c,c0,iU,cC,cB,zcZ7]
 ·simp only [c,cJ,bS,cA]
def zaV9 (l:List bC) (i:Nat) (n:bC):Bool:=zb6 n.aN&&vE n.bO&&decide (0≤n.gen)&&decide (n.gen≤1073741824)&&(decide (i=0)||decide (cmpP (l.getD (i - 1) bC.zero).aN n.aN < 0))
def zaH5 (l:List bC):Bool:=(List.range l.length).all fun i=>zaV9 l i (l.getD i bC.zero)
def zaH6 (s:aD):List aJ:=zaV4 (zE0 s.aF++s.aQ.map (·.aN))
def zX9 (s:aD):Bool:=zaz1 s.aF&&decide (s.aQ.length≤8)&&zaH5 s.aQ&&decide ((zaH6 s).length≤8)
theorem zcD0 (s:aD) (h8:s.aQ.length≤8):zc0 (zW0 s) 0=some (if zaH5 s.aQ=true then .inl () else .inr false):=by
 have key:=zJ0 (body:=zW0 s) s.aQ.length (fun i=>if zaV9 s.aQ i (s.aQ.getD i bC.zero)=true then none else some (Sum.inr (α:=Unit) false)) (Sum.inl ()) (fun i hi=>by
  unfold zW0
  have c1:(i:Int) < (s.aQ.length:Int):=by omega
  have c2:0≤(i:Int):=by omega
  simp only [c1,c2,cV,cC,cB,zm1,zX8,zay9,Int.toNat_natCast]
  unfold zaV9
  have nd:∀ x:bC,x=x:=fun x=>rfl
  rcases hb (zb6 (s.aQ.getD i bC.zero).aN) with hP|hP
  ·rcases hb (vE (s.aQ.getD i bC.zero).bO) with hE|hE
   ·by_cases q1:(s.aQ.getD i bC.zero).gen < 0
    ·simp [hP,hE,q1,show ¬ 0≤(s.aQ.getD i bC.zero).gen by omega,-List.getD_eq_getElem?_getD]
    ·by_cases q2:1073741824 < (s.aQ.getD i bC.zero).gen
     ·simp [hP,hE,q1,q2,show ¬ (s.aQ.getD i bC.zero).gen≤1073741824 by omega,-List.getD_eq_getElem?_getD]
     ·have q1':0≤(s.aQ.getD i bC.zero).gen:=by omega
      have q2':(s.aQ.getD i bC.zero).gen≤1073741824:=by omega
      have w2:IntKind.i64.wrap ((i:Int)+1)=(i:Int)+1:=zf5 (by omega) (by omega)
      by_cases q3:i=0
      ·subst q3
       simp only [hP,hE,q1,q2,q1',q2',cB,Option.bind_some,cC,cJ,cK,dE,fU,cH,eQ,dL,fN,Int.cast_ofNat_Int,Int.lt_irrefl,gR,eK,bS,iW,zm1,cA]
       rfl
      ·have q4:(0:Int) < (i:Int):=by omega
       have w:IntKind.i64.wrap ((i:Int) - 1)=((i - 1:Nat):Int):=zaA3 i (by omega) (by omega)
       rw [hP,bV rfl,Option.bind_some,gdp (by intro _; rw [w]; omega),w,w2]
       simp only [hE,q1,q2,q1',q2',q3,q4,cC,cJ,cK,dE,fU,cH,eQ,dL,Int.toNat_natCast,cB,cA]
       by_cases q5:cmpP (s.aQ.getD (i - 1) bC.zero).aN (s.aQ.getD i bC.zero).aN < 0
       ·have q6:¬ 0≤cmpP (s.aQ.getD (i - 1) bC.zero).aN (s.aQ.getD i bC.zero).aN:=by omega
        simp only [q5,q6,cC,cJ,cB,bS,cA]
       ·have q6:0≤cmpP (s.aQ.getD (i - 1) bC.zero).aN (s.aQ.getD i bC.zero).aN:=by omega
        simp only [q5,q6,cC,cJ,cB,bS,cA]
   ·simp [hP,hE,-List.getD_eq_getElem?_getD]
  ·simp [hP,-List.getD_eq_getElem?_getD])
  (by unfold zW0; simp)
 rw [key,zS6 (fun i=>zaV9 s.aQ i (s.aQ.getD i bC.zero))]
 unfold zaH5
 rw [eM]
 split <;> rfl
theorem zaI4 (s:aD) (h1:s.aF.length≤8) (h2:∀ q ∈ s.aF,zj0 q=true) (h8:s.aQ.length≤8):zt7 s=some (zaH6 s):=by
 have hq:=zbK3 s.aF h2
 have hs:(zE0 s.aF).length≤200:=by
  have:=zbC2 (s.aF.flatMap zaq3)
  unfold zE0; omega
 unfold zt7
 rw [zbT4 h1 h2,Option.bind_some,gdp (by omega),zaM9 s.aQ bC.zero (·.aN) _ (by omega) (by omega) (fun i t hi ht=>by
  unfold zQ5
  have h3:0≤(i:Int)∧(i:Int) < (s.aQ.length:Int):=by omega
  have h1:t.length+1≤4294967296:=by omega
  simp only [h1,h3.1,h3.2,cV,zm1,cC,cB,Int.toNat_natCast,zc4 i (show i < 4611686018427387904 by omega)]) (fun t=>by unfold zQ5; simp),Option.bind_some]
 unfold zaa9
 rw [zat7 _ (by simp; omega)]; rfl
theorem zaN4 (s:aD) (hp:zaz1 s.aF=true) (h8:s.aQ.length≤8):zt7 s=some (zaH6 s):=by
 obtain ⟨h1,h2,_⟩:=(zam6 _).1 hp
 exact zaI4 s h1 h2 h8
theorem zO3 (s:aD):zt8 s=some (zX9 s):=by
 unfold zt8 zX9
 by_cases h8:s.aQ.length≤8
 ·by_cases hq:s.aF.length≤8
  ·simp only [show ¬ (8:Int) < (s.aQ.length:Int) by omega,show ¬ (8:Int) < (s.aF.length:Int) by omega,cJ,eQ,bS,cA,h8,cC,eV]
   rw [zbT2 s.aF hq (fun i hi=>by
    unfold zab2
    have h3:0≤(i:Int)∧(i:Int) < (s.aF.length:Int):=by omega
    simp only [h3.1,h3.2,cV,zm1,cC,cB,Int.toNat_natCast,zbR2,Option.bind_some,zc4 i (show i < 4611686018427387904 by omega)]
    by_cases e0:i=0
    ·subst e0
     rw [zg6 (by simp)]
     cases zj0 (s.aF.getD 0 aA.zero) <;> simp
    ·rw [zaA3 i (by omega) (by omega),zg6 (by intro _; omega)]
     simp only [Int.toNat_natCast,show (0:Int) < (i:Int) by omega,cC,cH,e0,iO]
     unfold ltN
     rcases hb (zj0 (s.aF.getD i aA.zero)) with b1|b1 <;> rcases hb (Op.bytesLess (s.aF.getD (i - 1) aA.zero).aB.name.toList (s.aF.getD i aA.zero).aB.name.toList) with b2|b2 <;> simp [b1,b2,-List.getD_eq_getElem?_getD]) (by unfold zab2; simp)]
   unfold zaz1
   simp only [hq,cC,cH]
   cases ha:ascW s.aF none with
   | false=>rfl
   | true =>
    have hp:zaz1 s.aF=true:=by unfold zaz1; simp [hq,ha]
    simp only [cB,Option.bind_some,cH]
    unfold zab1
    rw [zct8,zcD0 s h8,Option.bind_some]
    cases zaH5 s.aQ with
    | false=>rfl
    | true =>
     simp only [cB,cH]
     unfold zal9
     rw [zaN4 s hp h8,Option.bind_some]
     congr 1
     rw [dN]; simp; omega
  ·have:zaz1 s.aF=false:=by unfold zaz1; simp [hq]
   simp only [show (8:Int) < (s.aF.length:Int) by omega,cC,fN,cB,this,eK]
 ·simp only [show (8:Int) < (s.aQ.length:Int) by omega,cC,hY,cB,h8,cJ,gR,eK]
structure Src (b:List Int):Prop where
 bytes:zU9 b
 len:b.length≤9223372036854775807
theorem zav6 (n:Int) (h0:0≤n) (h1:n < 2 ^ 64):IntKind.u64.wrap n=n:=by rw [IntKind.wrap_u64]; omega
theorem zcD1 {x:Int} (h0:0≤x) (h1:x < 18446744073709551616):zO4 .and .u64 x 127=x % 128:=bits_mask .u64 64 (by decide) zav6 7 (by decide) x h0 (by omega)
theorem zce0 {x:Int} (h0:0≤x) (h1:x < 256):zO4 .and .u8 x 127=x % 128:=bits_mask .u8 8 (by decide) wraps_u8 7 (by decide) x h0 (by omega)
theorem zct9 (k:IntKind) (x y:Int):zO4 .or k x y=zO4 .or k y x:=by simp only [zO4,BitVec.or_comm]
theorem zdg7 {y:Int} (h0:0≤y) (h1:y < 128):zO4 .or .u8 y 128=y+128:=by
 rw [zct9]
 have:zO4 .or .u8 128 y=128+y:=bits_join .u8 8 (by decide) wraps_u8 7 128 y (by decide) (by decide) (by decide) h0 (by omega) (by omega)
 rw [this]; omega
theorem zcK7 (s:Nat) (hs:s≤28) {v c:Int} (hv0:0≤v) (hv:v < 2 ^ s) (hc0:0≤c) (hc:c < 128):zO4 .or .u64 v (IntKind.u64.wrap (c * 2 ^ s))=v+c * 2 ^ s:=by
 have hp:(2:Int) ^ s≤2 ^ 28:=by exact_mod_cast Nat.pow_le_pow_right (by decide) hs
 have hq:(0:Int) < 2 ^ s:=by exact_mod_cast Nat.two_pow_pos s
 have hm:c * 2 ^ s≤127 * 2 ^ 28:=Int.mul_le_mul (by omega) hp (by omega) (by decide)
 have hm0:0≤c * 2 ^ s:=Int.mul_nonneg hc0 (by omega)
 rw [zav6 _ hm0 (by omega),zct9]
 have:zO4 .or .u64 (c * 2 ^ s) v=c * 2 ^ s+v:=bits_join .u64 64 (by decide) zav6 s _ v hm0 (Int.mul_emod_left _ _) (by omega) hv0 hv (by omega)
 rw [this]; omega
def encU (n:Nat):List Int:=if n < 128 then [(n:Int)] else ((n % 128+128:Nat):Int) :: encU (n / 128)
termination_by n
decreasing_by omega
theorem zaQ2 {n:Nat} (h:n < 128):encU n=[(n:Int)]:=by rw [encU,bV h]
theorem zbl2 {n:Nat} (h:¬ n < 128):encU n=((n % 128+128:Nat):Int) :: encU (n / 128):=by rw [encU,bU h]
theorem zbi7:∀ (k n:Nat),n < 128 ^ (k+1)→1≤(encU n).length∧(encU n).length≤k+1
 | 0,n,h=>by rw [zaQ2 (by omega)]; simp
 | k+1,n,h=>by
  by_cases c:n < 128
  ·rw [zaQ2 c]; simp
  ·rw [zbl2 c]
   have:=zbi7 k (n / 128) (by rw [Nat.pow_succ] at h; omega)
   simp only [List.length_cons]; omega
theorem zbs7:∀ (n:Nat),zU9 (encU n):=by
 intro n
 induction n using Nat.strongRecOn with
 | _ n ih =>
  by_cases c:n < 128
  ·rw [zaQ2 c]; intro x hx; rw [dP] at hx; omega
  ·rw [zbl2 c]
   intro x hx
   rcases cF.1 hx with rfl|hx
   ·omega
   ·exact ih (n / 128) (by omega) x hx
theorem zbi8:∀ (k n:Nat) (l:List Int),n < 128 ^ (k+1)→k≤8→l.length+k≤4294967290→∃ y l',zc0 zs1 ((n:Int),l)=some (y,l')∧l'++[IntKind.u8.wrap y]=l++encU n∧l'.length≤l.length+k
 | 0,n,l,h,hk,hl=>by
  refine ⟨n,l,?_,?_,by omega⟩
  ·rw [zf6]; unfold zs1; rw [bU (by simp; omega)]
  ·rw [zaQ2 (by omega),wraps_u8 _ (by omega) (by omega)]
 | k+1,n,l,h,hk,hl=>by
  by_cases c:n < 128
  ·refine ⟨n,l,?_,?_,by omega⟩
   ·rw [zf6]; unfold zs1; rw [bU (by simp; omega)]
   ·rw [zaQ2 c,wraps_u8 _ (by omega) (by omega)]
  ·have hbig:n < 18446744073709551616:=by
    have:128 ^ (k+1+1)≤128 ^ 9:=Nat.pow_le_pow_right (by decide) (by omega)
    omega
   obtain ⟨y,l',h1,h2,h3⟩:=zbi8 k (n / 128) (l++[((n % 128+128:Nat):Int)]) (by rw [Nat.pow_succ] at h; omega) (by omega) (by simp; omega)
   refine ⟨y,l',?_,?_,by simp at h3; omega⟩
   ·rw [zf6]
    have hstep:zs1 ((n:Int),l)=some (.inl (((n / 128:Nat):Int),l++[((n % 128+128:Nat):Int)])):=by
     unfold zs1
     simp only
     rw [bV (by simp; omega),gdp (by omega),zcD1 (by omega) (by omega),wraps_u8 _ (by omega) (by omega),zdg7 (by omega) (by omega)]
     have:(n:Int).fdiv (2 ^ 7)=((n / 128:Nat):Int):=by rw [Int.fdiv_eq_ediv_of_nonneg _ (by decide)]; omega
     rw [this]
     have:(n:Int) % 128+128=((n % 128+128:Nat):Int):=by omega
     rw [this]
    rw [hstep]
    exact h1
   ·rw [h2,zbl2 c,cE]; rfl
theorem zbC9 {n:Nat} {l:List Int} (hn:n < 128 ^ 9) (hl:l.length≤4294967000):zH1 l (n:Int)=some (l++encU n):=by
 obtain ⟨y,l',h1,h2,h3⟩:=zbi8 8 n l hn (by decide) (by omega)
 unfold zH1
 rw [gdp (by omega),h1,Option.bind_some]
 unfold zah4
 rw [gdp (by simp only; omega)]
 simp only [h2]
theorem zcu0 {n:Nat} {l:List Int} (hn:n < 128 ^ 9) (hl:l.length≤4294967000):zaQ0 l (n:Int)=some (l++encU n):=by
 rw [← zbC9 hn hl]; rfl
theorem zcD2 (g:Int×List Int):zN3 g=zs1 g:=by
 unfold zN3 zs1
 by_cases c:127 < g.1
 ·rw [bV (by simpa using c),bV (by simp; omega)]
 ·rw [bU (by simpa using c),bU (by simp; omega)]
theorem zcR9 (l:List Int) (x:Int) (hl:l.length≤4294967000):ze7 l x=zH1 l x:=by
 unfold ze7 zH1
 have hb:zN3=zs1:=funext zcD2
 have ht:l.take ((l.length:Int).toNat)=l:=by rw [Int.toNat_natCast,eH]
 have g2:l.length+1≤4294967296:=by omega
 have g3:l.length≤4294967296:=by omega
 rw [ht,hb,gdp (by omega),gdp g2,gdp g3,zf6 zs1 (x,l)]
 by_cases c:127 < x
 ·rw [bV (by simpa using c)]
  have:zs1 (x,l)=some (.inl (x.fdiv (2 ^ 7),l++[zO4 .or .u8 (IntKind.u8.wrap (zO4 .and .u64 x 127)) 128])):=by
   unfold zs1
   rw [bV (by simp; omega),gdp (by simp only; omega)]
  rw [this]
  rfl
 ·rw [bU (by simpa using c)]
  have:zs1 (x,l)=some (.inr (x,l)):=by
   unfold zs1
   rw [bU (by simp; omega)]
  rw [this]
  show _=zah4 (x,l)
  unfold zah4
  rw [gdp g2]
theorem zce1 {n:Nat} {l:List Int} (hn:n < 128 ^ 9) (hl:l.length≤4294967000):ze7 l (n:Int)=some (l++encU n):=by
 rw [zcR9 l _ hl,zbC9 hn hl]
theorem zcu1 {n:Nat} {l:List Int} (hn:n < 128 ^ 9) (hl:l.length≤4294967000):zg0 l (n:Int)=some (l++encU n):=by
 rw [← zce1 hn hl]; rfl
theorem zcS0 {a rest:List Int} (ha:zU9 a):∀ (k m i:Nat) (v:Int),i+k=4→m < 128 ^ (k+1)→a.drop i=encU m++rest→(i=0∨1≤m)→0≤v→v < 2 ^ (7 * i) →
  zc0 (zY7 a) (v,(i:Int))=some (.inr (v+(m:Int) * 2 ^ (7 * i),((i+(encU m).length:Nat):Int),0)):=by
 have step:∀ (m i:Nat) (v:Int),i≤4→a.drop i=encU m++rest→0≤v→v < 2 ^ (7 * i)→(m < 128→(i=0∨1≤m)→zY7 a (v,(i:Int))=some (.inr (.inr (v+(m:Int) * 2 ^ (7 * i),((i+1:Nat):Int),0)))) ∧
   (¬ m < 128→zY7 a (v,(i:Int))=some (.inl (v+((m % 128:Nat):Int) * 2 ^ (7 * i),((i+1:Nat):Int)))):=by
  intro m i v hi hd h0 h1
  have hne:encU m≠[]:=by
   rw [encU]; split <;> simp
  have hlen:i < a.length:=by
   have:=cP List.length hd
   rw [eC,bX] at this
   have:0 < (encU m).length:=gC.2 hne
   omega
  have hw:IntKind.i64.wrap (7 * (i:Int))=((7 * i:Nat):Int):=by rw [zf5 (by omega) (by omega)]; omega
  have hw2:(IntKind.i64.wrap (7 * (i:Int))).toNat=7 * i:=by rw [hw]; rfl
  have hmin:Nat.min (7 * i) IntKind.u64.bits=7 * i:=gA (by show 7 * i≤64; omega)
  have hget:∀ c t,a.drop i=c :: t→a.getD ((i:Int).toNat) 0=c:=fun c t e=>by
   have:=zaA2 a i 0 hlen
   rw [e] at this
   exact (List.cons.inj this).1.symm
  unfold zY7
  simp only
  rw [bV (by simp; omega),bU (by simp; omega),gdp (by omega),bU (by simp; omega),gdp (by omega),zc4 i (by omega),hw2,hmin]
  constructor
  ·intro c hm
   have hc:=hget (m:Int) rest (by rw [hd,zaQ2 c]; rfl)
   rw [hc,(zde2 (m:Int) (by omega) (by omega)).2 (by omega),zce0 (by omega) (by omega),zav6 ((m:Int) % 128) (by omega) (by omega),zcK7 (7 * i) (by omega) h0 h1 (by omega) (by omega)]
   have hmm:(m:Int) % 128=m:=by omega
   have h2:(decide ((m:Int)=0)&&decide ((0:Int) < (i:Int)))=false:=by
    rw [dY]; simp; omega
   rw [hmm,h2]
   simp
  ·intro c
   have hc:=hget ((m % 128+128:Nat):Int) (encU (m / 128)++rest) (by rw [hd,zbl2 c]; rfl)
   have hb:¬ zO4 .and .u8 ((m % 128+128:Nat):Int) 128=0:=fun e=>by have:=(zde2 _ (by omega) (by omega)).1 e; omega
   rw [hc,zce0 (by omega) (by omega),zav6 (((m % 128+128:Nat):Int) % 128) (by omega) (by omega),zcK7 (7 * i) (by omega) h0 h1 (by omega) (by omega)]
   have hmm:((m % 128+128:Nat):Int) % 128=((m % 128:Nat):Int):=by omega
   rw [hmm,bV (by simpa using hb)]
 intro k
 induction k with
 | zero =>
  intro m i v hi hm hd h0 hv0 hv
  rw [zf6,(step m i v (by omega) hd hv0 hv).1 (by omega) h0,zaQ2 (by omega)]
  rfl
 | succ k ih =>
  intro m i v hi hm hd h0 hv0 hv
  by_cases c:m < 128
  ·rw [zf6,(step m i v (by omega) hd hv0 hv).1 c h0,zaQ2 c]
   rfl
  ·rw [zf6,(step m i v (by omega) hd hv0 hv).2 c]
   have hp:(2:Int) ^ (7 * (i+1))=128 * 2 ^ (7 * i):=by rw [Nat.mul_add,Int.pow_add]; omega
   have hq:(0:Int) < 2 ^ (7 * i):=by exact_mod_cast Nat.two_pow_pos _
   have hm1:((m % 128:Nat):Int) * 2 ^ (7 * i)≤127 * 2 ^ (7 * i):=Int.mul_le_mul_of_nonneg_right (by omega) (by omega)
   have hm0:0≤((m % 128:Nat):Int) * 2 ^ (7 * i):=Int.mul_nonneg (by omega) (by omega)
   have:=ih (m / 128) (i+1) (v+((m % 128:Nat):Int) * 2 ^ (7 * i)) (by omega) (by rw [Nat.pow_succ] at hm; omega) (by
    rw [← eT,hd,zbl2 c]; rfl) (.inr (by omega)) (by omega) (by rw [hp]; omega)
   simp only
   rw [this,zbl2 c,hp]
   have e1:(m:Int)=128 * ((m / 128:Nat):Int)+((m % 128:Nat):Int):=by omega
   have e2:v+((m % 128:Nat):Int) * 2 ^ (7 * i)+((m / 128:Nat):Int) * (128 * 2 ^ (7 * i))=v+(m:Int) * 2 ^ (7 * i):=by
    rw [e1,Int.add_mul,Int.mul_assoc 128,Int.mul_left_comm]
    omega
   rw [e2]
   simp only [List.length_cons]
   rw [show i+1+(encU (m / 128)).length=i+((encU (m / 128)).length+1) by omega]
theorem zcu2 {n:Nat} {rest:List Int} (hn:n < 128 ^ 5) (hr:zU9 rest):zk7 (encU n++rest)=some ((n:Int),((encU n).length:Int),0):=by
 have hb:zU9 (encU n++rest):=fun x hx=>by
  rcases cI.1 hx with h|h
  ·exact zbs7 n x h
  ·exact hr x h
 unfold zk7
 have:=zcS0 (rest:=rest) hb 4 n 0 0 rfl hn rfl (.inl rfl) (jG _) (by decide)
 rw [show ((0,0):Int×Int)=(0,((0:Nat):Int)) from rfl,this]
 simp
def encI (x:Int):List Int:=encU x.toNat
def encT (s:ByteArray):List Int:=encU s.size++s.toList.map fun b=>(b.toNat:Int)
def encP (p:aJ):List Int:=encI p.site++encI p.inc++encI p.num
def encA (a:aC):List Int:=encI a.mode++encI a.aS
mutual
def encE:aO→List Int
 | ⟨k,a,ks⟩=>encI k++(if k=0 then encT a.name++encA a.aK else encI (ks.length:Int)++zcu3 ks)
def zcu3:List aO→List Int
 | []=>[]
 | k :: l=>encE k++zcu3 l
end
theorem zbK6 (e:aO):encE e=encI e.k++(if e.k=0 then encT e.bB.name++encA e.bB.aK else encI (e.bA.length:Int)++e.bA.flatMap encE):=by
 have:∀ l,zcu3 l=l.flatMap encE:=by
  intro l
  induction l with
  | nil=>rw [zcu3]; rfl
  | cons x l ih=>rw [zcu3,ih]; rfl
 cases e
 rw [encE,this]
def encH (h:aU):List Int:=encP h.aN++encA h.aK
def encC (w:aT):List Int:=encP w.aN++encA w.aK
def encW (w:aT):List Int:=encP w.aN++encA w.aK++encI w.bG++encI w.bQ
def encQ (q:aA):List Int:=encT q.aB.name++(encI q.aB.kind++(encI q.aB.aS++(encI q.aB.home++(encI q.gen++(encI (q.aR.length:Int)++(q.aR.flatMap encH++(encI (q.aL.length:Int)++(q.aL.flatMap encC++(encI (q.aV.length:Int)++q.aV.flatMap encW)))))))))
def encN (n:bC):List Int:=encP n.aN++(encI n.gen++encE n.bO)
def encS (s:aD):List Int:=encI (s.aF.length:Int)++(s.aF.flatMap encQ++(encI (s.aQ.length:Int)++s.aQ.flatMap encN))
theorem zU9.app {a b:List Int} (ha:zU9 a) (hb:zU9 b):zU9 (a++b):=fun x hx=>by
 rcases cI.1 hx with h|h
 ·exact ha x h
 ·exact hb x h
theorem zU9.nil:zU9 []:=fun x hx=>by cases hx
theorem zU9.flat {α:Type} {f:α→List Int} (h:∀ x,zU9 (f x)) (l:List α):zU9 (l.flatMap f):=fun x hx=>by
 obtain ⟨a,_,ha⟩:=eU.1 hx
 exact h a x ha
theorem zz0 (x:Int):zU9 (encI x):=zbs7 _
theorem zbU5 (s:ByteArray):zU9 (encT s):=(zbs7 _).app fun x hx=>by
 obtain ⟨b,_,rfl⟩:=cQ.1 hx
 have:=b.toNat_lt
 omega
theorem zaZ4 (p:aJ):zU9 (encP p):=((zz0 _).app (zz0 _)).app (zz0 _)
theorem zaZ5 (a:aC):zU9 (encA a):=(zz0 _).app (zz0 _)
theorem zbi9:∀ (n:Nat) (e:aO),_root_.SizeOf.sizeOf e < n→zU9 (encE e)
 | 0,_,h=>by omega
 | n+1,e,h=>by
  rw [zbK6]
  refine (zz0 _).app ?_
  split
  ·exact (zbU5 _).app (zaZ5 _)
  ·refine (zz0 _).app fun x hx=>?_
   obtain ⟨k,hk,hx⟩:=eU.1 hx
   exact zbi9 n k (zai7 h hk) x hx
theorem zcD3 (e:aO):zU9 (encE e):=zbi9 _ e (dW _)
theorem zcD4 (h:aU):zU9 (encH h):=(zaZ4 _).app (zaZ5 _)
theorem zcD5 (h:aT):zU9 (encC h):=(zaZ4 _).app (zaZ5 _)
theorem zcD6 (h:aT):zU9 (encW h):=(((zaZ4 _).app (zaZ5 _)).app (zz0 _)).app (zz0 _)
theorem zcD7 (q:aA):zU9 (encQ q) :=
 (zbU5 _).app ((zz0 _).app ((zz0 _).app ((zz0 _).app ((zz0 _).app ((zz0 _).app ((zU9.flat zcD4 _).app ((zz0 _).app ((zU9.flat zcD5 _).app ((zz0 _).app (zU9.flat zcD6 _))))))))))
theorem zcD8 (n:bC):zU9 (encN n):=(zaZ4 _).app ((zz0 _).app (zcD3 _))
theorem zcD9 (s:aD):zU9 (encS s):=(zz0 _).app ((zU9.flat zcD7 _).app ((zz0 _).app (zU9.flat zcD8 _)))
abbrev D (r:List Int):aY:=⟨⟨r,0⟩⟩
def okI (x:Int):Prop:=0≤x∧x≤1073741824
theorem Src.right {a b:List Int} (h:Src (a++b)):Src b:=⟨fun x hx=>h.bytes x (cI.2 (.inr hx)),by have:=h.len; rw [bX] at this; omega⟩
theorem zbl3 {x:Int} (h:okI x) {r:List Int} (hr:Src (encI x++r)):zk7 (encI x++r)=some (x,((encI x).length:Int),0):=by
 have hb:=hr.right.bytes
 unfold encI
 obtain ⟨h0,h1⟩:=h
 rw [zcu2 (by omega) hb]
 rw [iC h0]
theorem zbG8 {lim over x:Int} (h0:0≤x) (h1:x≤lim) (h2:lim≤1073741824) {r:List Int} (hr:Src (encI x++r)):zc1 lim over (D (encI x++r))=some (x,D r):=by
 unfold zc1
 rw [bU (by simp),zbl3 ⟨h0,by omega⟩ hr,Option.bind_some,zav6 lim (by omega) (by omega),bU (by simp; omega)]
 unfold zC9
 rw [bU (by simp),gdp (by simp; omega)]
 simp only [zf5 (x:=x) (by omega) (by omega),Int.toNat_natCast,gT]
theorem zaC2 {lim x:Int} (h0:0≤x) (h1:x≤lim) (h2:lim≤1073741824) {r:List Int} (hr:Src (encI x++r)):zc6 lim (D (encI x++r))=some (x,D r):=by
 unfold zc6
 rw [zbG8 h0 h1 h2 hr]; rfl
theorem zR1 {x:Int} (h:okI x) {r:List Int} (hr:Src (encI x++r)):zb9 (D (encI x++r))=some (x,D r):=by
 unfold zb9
 rw [zbG8 h.1 h.2 (by decide) hr]; rfl
theorem zbZ1 (s:ByteArray):zaW6 (s.toList.map fun b=>(b.toNat:Int))=s:=by
 have:(s.toList.map fun b=>(b.toNat:Int)).map (fun n=>UInt8.ofNat n.toNat)=s.data.toList:=by
  rw [jA,ByteArray.toList_eq]
  conv=>rhs; rw [← List.map_id s.data.toList]
  refine List.map_congr_left fun b _=>?_
  simp
 unfold zaW6
 rw [this]
theorem zaZ6 (s:ByteArray):s.toList.length=s.size:=by rw [ByteArray.toList_eq]; rfl
theorem zce2 {s:ByteArray} (h:s.size≤1024) {r:List Int} (hr:Src (encT s++r)):ze0 (D (encT s++r))=some (s,D r):=by
 have hl:(s.toList.map fun b=>(b.toNat:Int)).length=s.size:=by rw [dS,zaZ6]
 have hlen:=zbi7 4 s.size (by omega)
 have hr2:=hr.len
 have hr3:(encT s++r).length=(encU s.size).length+(s.size+r.length):=by unfold encT; rw [bX,bX,hl]; omega
 have ht:zo7 (encT s++r)=some (s,((encT s).length:Int),0):=by
  unfold zo7
  unfold encT at hr ⊢
  rw [cE] at hr ⊢
  rw [zcu2 (by omega) hr.right.bytes,Option.bind_some]
  rw [bU (by simp),bU (by simp; omega)]
  simp only
  have w1:IntKind.i64.wrap (s.size:Int)=(s.size:Int):=zf5 (by omega) (by omega)
  have w2:IntKind.i64.wrap (((encU s.size).length:Int)+(s.size:Int))=((encU s.size).length+s.size:Nat):=by rw [zf5 (by omega) (by omega)]; omega
  have e1:(encU s.size++((s.toList.map fun b=>(b.toNat:Int))++r)).length=(encU s.size).length+(s.size+r.length):=by rw [bX,bX,hl]
  rw [w1,w2,e1,zf5 (by omega) (by omega),bU (by simp; omega),gdp (by omega)]
  simp only [Int.toNat_natCast]
  rw [List.take_append,cX (by omega),show (encU s.size).length+s.size - (encU s.size).length=s.size by omega,gT,List.take_append,cX (by omega),hl,gM,List.take_zero,dT,zbZ1]
  congr 3
  rw [bX,hl]
 unfold ze0
 rw [bU (by simp),ht,Option.bind_some,bU (by simp),gdp (by simp; omega)]
 simp only [Int.toNat_natCast,gT]
theorem zaZ7 {p:aJ} (h:zb6 p=true):okI p.site∧okI p.inc∧okI p.num:=by
 unfold zb6 zL1 at h
 simp only [bT,bY] at h
 unfold okI
 omega
theorem zbl4 {p:aJ} (h:zb6 p=true) {r:List Int} (hr:Src (encP p++r)):ze2 (D (encP p++r))=some (p,D r):=by
 obtain ⟨k1,k2,k3⟩:=zaZ7 h
 have hlen:∀ x:Int,okI x→(encI x).length≤5:=fun x hx=>(zbi7 4 x.toNat (by have:=hx.1; have:=hx.2; omega)).2
 have l1:=hlen _ k1
 have l2:=hlen _ k2
 have l3:=hlen _ k3
 have hr0:=hr.len
 have ht:zs0 (encP p++r)=some (p,((encP p).length:Int),0):=by
  have hr':=hr
  unfold encP at hr' ⊢
  rw [cE,cE] at hr' ⊢
  have s2:=hr'.right
  have s3:=s2.right
  have hn:∀ x:Int,okI x→IntKind.i64.wrap (if 1073741824 < x then 1073741824 else x)=x:=fun x hx=>by rw [bU (by have:=hx.2; omega),zf5 (by have:=hx.1; omega) (by have:=hx.2; omega)]
  have hlen0:(encI p.site++(encI p.inc++(encI p.num++r))).length=(encI p.site).length+((encI p.inc).length+((encI p.num).length+r.length)):=by simp
  have hrl:=hr.right.len
  have t1:zC3 (encI p.site++(encI p.inc++(encI p.num++r))) (0,0,Arr.rep 3 0)=some (.inl (((encI p.site).length:Int),1,Arr.put (Arr.rep 3 0) 0 p.site)):=by
   unfold zC3
   simp only [Int.toNat_zero,fY]
   rw [bV (by decide),gdp (by omega),zbl3 k1 hr',Option.bind_some,bU (by simp),gdp (by decide)]
   simp only [hn _ k1]
   rw [zf5 (by omega) (by omega),Int.zero_add]
   rfl
  have t2:∀ z,zC3 (encI p.site++(encI p.inc++(encI p.num++r))) (((encI p.site).length:Int),1,z)=some (.inl (((encI p.site).length:Int)+((encI p.inc).length:Int),2,Arr.put z 1 p.inc)):=by
   intro z
   unfold zC3
   simp only [Int.toNat_natCast,gT]
   rw [bV (by simp),gdp (by omega),zbl3 k2 s2,Option.bind_some,bU (by simp),gdp (by decide)]
   simp only [hn _ k2]
   rw [zf5 (by omega) (by omega)]
   rfl
  have t3:∀ z,zC3 (encI p.site++(encI p.inc++(encI p.num++r))) (((encI p.site).length:Int)+((encI p.inc).length:Int),2,z)=some (.inl (((encI p.site).length:Int)+((encI p.inc).length:Int)+((encI p.num).length:Int),3,Arr.put z 2 p.num)):=by
   intro z
   unfold zC3
   have hd:(encI p.site++(encI p.inc++(encI p.num++r))).drop (((encI p.site).length:Int)+((encI p.inc).length:Int)).toNat=encI p.num++r:=by
    rw [show (((encI p.site).length:Int)+((encI p.inc).length:Int)).toNat=(encI p.site).length+(encI p.inc).length by omega,← eT,gT,gT]
   simp only [hd]
   rw [bV (by simp),gdp (by omega),zbl3 k3 s3,Option.bind_some,bU (by simp),gdp (by decide)]
   simp only [hn _ k3]
   rw [zf5 (by omega) (by omega)]
   rfl
  have t4:∀ (i:Int) z,zC3 (encI p.site++(encI p.inc++(encI p.num++r))) (i,3,z)=some (.inr (.inl (i,z))):=fun i z=>by
   unfold zC3
   rw [bU (by simp)]
  unfold zs0
  rw [zf6,t1]
  simp only
  rw [zf6,t2]
  simp only
  rw [zf6,t3]
  simp only
  rw [zf6,t4]
  simp only [Option.bind_some]
  unfold zaG6
  have g:∀ x y z:Int,(⟨Arr.get (Arr.put (Arr.put (Arr.put (Arr.rep 3 0) 0 x) 1 y) 2 z) 0 0,Arr.get (Arr.put (Arr.put (Arr.put (Arr.rep 3 0) 0 x) 1 y) 2 z) 1 0,Arr.get (Arr.put (Arr.put (Arr.put (Arr.rep 3 0) 0 x) 1 y) 2 z) 2 0⟩:aJ)=⟨x,y,z⟩:=fun _ _ _=>rfl
  simp only [g]
  rw [bU (by simpa using h)]
  congr 3
  simp only [bX]; omega
 unfold ze2
 have:(encP p++r).length=(encP p).length+r.length:=bX
 rw [bU (by simp),ht,Option.bind_some,bU (by simp),gdp (by simp only; omega)]
 simp only [Int.toNat_natCast,gT]
theorem zaQ3 {a:aC} (h1:okI a.mode) (h2:okI a.aS) {r:List Int} (hr:Src (encA a++r)):ze1 (D (encA a++r))=some (a,D r):=by
 unfold ze1
 unfold encA at hr ⊢
 rw [cE] at hr ⊢
 rw [zR1 h1 hr,Option.bind_some,zR1 h2 hr.right]
 rfl
theorem zaC3 {α Q:Type} {body:Int×aY×Q→Option ((Int×aY×Q)⊕(aY×Q))} {enc:α→List Int} {ok:α→Prop} (R:List α→Q)
  (hs:∀ (n:Int) x rest pre,ok x→Src (enc x++rest)→0 < n→n≤100→pre.length≤100→body (n,D (enc x++rest),R pre)=some (.inl (n - 1,D rest,R (pre++[x]))))
  (he:∀ d q,body (0,d,q)=some (.inr (d,q))):∀ (l pre:List α) (rest:List Int),(∀ x ∈ l,ok x)→Src (l.flatMap enc++rest)→pre.length+l.length≤100 →
   zc0 body ((l.length:Int),D (l.flatMap enc++rest),R pre)=some (D rest,R (pre++l))
 | [],pre,rest,_,_,_=>by
  have e:body ((([]:List α).length:Int),D (([]:List α).flatMap enc++rest),R pre)=some (.inr (D rest,R pre)):=he _ _
  rw [zf6,e,dT]
 | x :: l,pre,rest,h,hr,hl=>by
  rw [fE,cE] at hr ⊢
  simp only [List.length_cons] at hl ⊢
  rw [zf6,hs _ x _ pre (h x (.head _)) hr (by omega) (by omega) (by omega)]
  simp only
  have:=zaC3 R hs he l (pre++[x]) rest (fun y hy=>h y (.tail _ hy)) hr.right (by simp; omega)
  rw [show (((l.length+1:Nat):Int) - 1)=(l.length:Int) by omega,this,cE]
  rfl
def okA (a:aC):Prop:=okI a.mode∧okI a.aS
theorem zbl5 {a:aC} (h:zaz2 a=true):okA a:=by
 unfold zaz2 zp6 zw0 at h
 unfold okA okI
 simp at h
 omega
theorem zbl6 {s:ByteArray} (h:zX5 s=true):s.size≤12:=by
 unfold zX5 at h
 simp at h
 omega
theorem zbx0:∀ {l:List aO} {k:aO},okL l=true→k ∈ l→okE k=true
 | x :: l,k,h,hk=>by
  simp only [okL,bT] at h
  rcases cF.1 hk with rfl|hk
  ·exact h.1
  ·exact zbx0 h.2 hk
theorem zcS1 {e k:aO} (hk:k ∈ e.bA):zq2 k+1≤zq2 e:=by
 have:∀ (ks:List aO),k ∈ ks→zq2 k≤zt1 ks:=by
  intro ks
  induction ks with
  | nil=>intro h; cases h
  | cons x ks ih =>
   intro h
   rw [zaG3]
   rcases cF.1 h with rfl|h
   ·omega
   ·have:=ih h; omega
 have:=this e.bA hk
 rw [zaV8 e]; omega
theorem zce3:∀ (n:Nat) (dp:Int) (e:aO),okE e=true→zn7 e≤24→1≤dp→dp+zq2 e≤5→7≤dp+n→∀ r,Src (encE e++r)→zu6 n dp (D (encE e++r))=some (e,D r)
 | 0,dp,e,_,_,h1,h2,h3,_,_=>by have:=zah7 e; omega
 | n+1,dp,e,hok,hn,h1,h2,h3,r,hr=>by
  show zz3 (zu6 n) dp (D (encE e++r))=_
  have hd:=zah7 e
  unfold zz3
  rw [bU (by simp; omega)]
  unfold zy7
  rw [zbK6,cE] at hr ⊢
  by_cases c:e.bA.length=0
  ·obtain ⟨k0,k1,k2⟩:=(zbi5 c).1 hok
   have hk:okI e.k:=by rw [k0]; unfold okI; omega
   rw [zR1 hk hr,Option.bind_some]
   have hr1:=hr.right
   rw [bV k0,cE] at hr1 ⊢
   obtain ⟨a1,a2⟩:=zbl5 k2
   have hs:=zbl6 k1
   simp only [cC,cK,bS,cA,k0,cB]
   rw [zce2 (by omega) hr1,Option.bind_some,zaQ3 a1 a2 hr1.right,Option.bind_some]
   have hkids:e.bA=[]:=cR c
   obtain ⟨ek,ea,eks⟩:=e
   simp only at k0 hkids
   subst k0; subst hkids
   rfl
  ·obtain ⟨⟨k0,k1,k2⟩,k3⟩:=(zbi6 c).1 hok
   have hlen:=zC2 e.bA
   have hne:=zL0 e
   have hk:okI e.k:=by unfold okI; omega
   rw [zR1 hk hr,Option.bind_some]
   have hr1:=hr.right
   have kn:¬ e.k=0:=by omega
   rw [bU kn,cE] at hr1 ⊢
   simp only [cC,cK,bS,cA,kn,cJ]
   rw [zaC2 (by omega) (by omega) (by decide) hr1,Option.bind_some]
   have hw:IntKind.i64.wrap (dp+1)=dp+1:=zf5 (by omega) (by omega)
   have key:=zaC3 (body:=zy6 (zu6 n) dp) (enc:=encE) (ok:=fun k=>okE k=true∧zn7 k≤24∧dp+1+zq2 k≤5)
    (fun pre=>(⟨e.k,⟨aO.zero.bB.name,⟨aO.zero.bB.aK.mode,aO.zero.bB.aK.aS⟩⟩,pre⟩:aO)) (fun m x rest pre hx hsrc hm hm2 hp=>by
     unfold zy6
     rw [bV (by simp; omega)]
     simp only [hw]
     rw [zce3 n (dp+1) x hx.1 hx.2.1 (by omega) hx.2.2 (by omega) rest hsrc,Option.bind_some,gdp (by omega),zf5 (by omega) (by omega)])
    (fun d q=>by unfold zy6; simp) e.bA [] r (fun k hk=>⟨zbx0 k3 hk,by have:=zaC1 hk; omega,by have:=zcS1 hk; omega⟩) hr1.right (by simp; omega)
   show (zc0 _ ((e.bA.length:Int),D (e.bA.flatMap encE++r),(⟨e.k,⟨aO.zero.bB.name,⟨aO.zero.bB.aK.mode,aO.zero.bB.aK.aS⟩⟩,[]⟩:aO))).bind _=_
   rw [key,Option.bind_some]
   unfold zF2
   obtain ⟨ek,ea,eks⟩:=e
   simp only at k2
   subst k2
   rfl
theorem zcE0 {e:aO} (hok:okE e=true) (hf:fitE e=true) {r:List Int} (hr:Src (encE e++r)):zm7 1 (D (encE e++r))=some (e,D r):=by
 unfold fitE at hf
 simp only [bT,bY] at hf
 unfold zm7
 exact zce3 _ 1 e hok hf.2 (by decide) (by omega) (by decide) r hr
structure OkQ (q:aA):Prop where
 name:q.aB.name.size≤1024
 kind:okI q.aB.kind
 aS:okI q.aB.aS
 home:okI q.aB.home
 gen:okI q.gen
 lh:q.aR.length≤8
 lc:q.aL.length≤8
 lw:q.aV.length≤8
 h:∀ x ∈ q.aR,zb6 x.aN=true∧okA x.aK
 c:∀ x ∈ q.aL,zb6 x.aN=true∧okA x.aK∧x.bG=0∧x.bQ=0
 w:∀ x ∈ q.aV,zb6 x.aN=true∧okA x.aK∧okI x.bG∧okI x.bQ
theorem zcE1 {q:aA} (h:OkQ q) {r:List Int} (hr:Src (encQ q++r)):zl5 (D (encQ q++r))=some (q,D r):=by
 have lh:=h.lh; have lc:=h.lc; have lw:=h.lw
 unfold zl5
 unfold encQ at hr ⊢
 simp only [cE] at hr ⊢
 rw [zce2 h.name hr,Option.bind_some]
 replace hr:=hr.right
 rw [zR1 h.kind hr,Option.bind_some]
 replace hr:=hr.right
 rw [zR1 h.aS hr,Option.bind_some]
 replace hr:=hr.right
 rw [zR1 h.home hr,Option.bind_some]
 replace hr:=hr.right
 rw [zR1 h.gen hr,Option.bind_some]
 replace hr:=hr.right
 rw [zaC2 (by omega) (by omega) (by decide) hr,Option.bind_some]
 replace hr:=hr.right
 have key3:=zaC3 (body:=zx7) (enc:=encH) (ok:=fun x=>zb6 x.aN=true∧okA x.aK)
  (fun pre=>(⟨⟨q.aB.name,q.aB.kind,q.aB.aS,q.aB.home⟩,pre,[],[],q.gen⟩:aA)) (fun m x rest pre hx hsrc hm hm2 hp=>by
   unfold zx7
   unfold encH at hsrc ⊢
   rw [cE] at hsrc ⊢
   rw [bV (by simp; omega),zbl4 hx.1 hsrc,Option.bind_some,zaQ3 hx.2.1 hx.2.2 hsrc.right,Option.bind_some,gdp (by first|omega|(simp only; omega)),zf5 (by omega) (by omega)])
  (fun d q=>by unfold zx7; simp) q.aR [] _ h.h hr (by simp; omega)
 rw [key3,Option.bind_some]
 replace hr:=hr.right
 unfold zD5
 rw [zaC2 (by omega) (by omega) (by decide) hr,Option.bind_some]
 replace hr:=hr.right
 have key2:=zaC3 (body:=zx6) (enc:=encC) (ok:=fun x=>zb6 x.aN=true∧okA x.aK∧x.bG=0∧x.bQ=0)
  (fun pre=>(⟨⟨q.aB.name,q.aB.kind,q.aB.aS,q.aB.home⟩,[]++q.aR,pre,[],q.gen⟩:aA)) (fun m x rest pre hx hsrc hm hm2 hp=>by
   unfold zx6
   unfold encC at hsrc ⊢
   rw [cE] at hsrc ⊢
   rw [bV (by simp; omega),zbl4 hx.1 hsrc,Option.bind_some,zaQ3 hx.2.1.1 hx.2.1.2 hsrc.right,Option.bind_some,gdp (by first|omega|(simp only; omega)),zf5 (by omega) (by omega)]
   obtain ⟨xp,xa,xr,xs⟩:=x
   obtain ⟨_,_,x1,x2⟩:=hx
   simp only at x1 x2
   subst x1; subst x2
   rfl)
  (fun d q=>by unfold zx6; simp) q.aL [] _ h.c hr (by simp; omega)
 rw [key2,Option.bind_some]
 replace hr:=hr.right
 unfold zD4
 rw [zaC2 (by omega) (by omega) (by decide) hr,Option.bind_some]
 replace hr:=hr.right
 have key1:=zaC3 (body:=zx5) (enc:=encW) (ok:=fun x=>zb6 x.aN=true∧okA x.aK∧okI x.bG∧okI x.bQ)
  (fun pre=>(⟨⟨q.aB.name,q.aB.kind,q.aB.aS,q.aB.home⟩,[]++q.aR,[]++q.aL,pre,q.gen⟩:aA)) (fun m x rest pre hx hsrc hm hm2 hp=>by
   unfold zx5
   unfold encW at hsrc ⊢
   simp only [cE] at hsrc ⊢
   rw [bV (by simp; omega),zbl4 hx.1 hsrc,Option.bind_some,zaQ3 hx.2.1.1 hx.2.1.2 hsrc.right,Option.bind_some,zR1 hx.2.2.1 hsrc.right.right,Option.bind_some,zR1 hx.2.2.2 hsrc.right.right.right,Option.bind_some,gdp (by first|omega|(simp only; omega)),zf5 (by omega) (by omega)])
  (fun d q=>by unfold zx5; simp) q.aV [] _ h.w hr (by simp; omega)
 rw [key1,Option.bind_some]
 rfl
structure OkS (s:aD):Prop where
 lq:s.aF.length≤8
 ln:s.aQ.length≤8
 q:∀ q ∈ s.aF,OkQ q
 n:∀ n ∈ s.aQ,zb6 n.aN=true∧okI n.gen∧okE n.bO=true∧fitE n.bO=true
theorem zcu4 {s:aD} (h:OkS s) (hl:(encS s).length≤4294967296):zw5 (encS s)=some (if zX9 s=true then (s,0) else (aD.zero,2)):=by
 have lq:=h.lq; have ln:=h.ln
 have hr:Src (encS s++[]):=⟨(zcD9 s).app zU9.nil,by rw [dT]; omega⟩
 have he:encS s=encS s++[]:=(dT _).symm
 unfold zw5
 rw [he]
 unfold encS at hr ⊢
 simp only [cE] at hr ⊢
 have c0:=zaC2 (lim:=8) (by omega) (by omega) (by decide) hr
 have z:(⟨{ bP.zero with rest:=encI (s.aF.length:Int)++(s.aF.flatMap encQ++(encI (s.aQ.length:Int)++(s.aQ.flatMap encN++[]))) }⟩:aY)=D (encI (s.aF.length:Int)++(s.aF.flatMap encQ++(encI (s.aQ.length:Int)++(s.aQ.flatMap encN++[])))):=rfl
 rw [z,c0,Option.bind_some]
 replace hr:=hr.right
 have key2:=zaC3 (body:=zM7) (enc:=encQ) (ok:=OkQ) (fun pre=>(⟨pre,[]⟩:aD)) (fun m x rest pre hx hsrc hm hm2 hp=>by
   unfold zM7
   rw [bV (by simp; omega),zcE1 hx hsrc,Option.bind_some,gdp (by first|omega|(simp only; omega)),zf5 (by omega) (by omega)])
  (fun d q=>by unfold zM7; simp) s.aF [] _ h.q hr (by simp; omega)
 rw [key2,Option.bind_some]
 replace hr:=hr.right
 unfold zY2
 rw [zaC2 (by omega) (by omega) (by decide) hr,Option.bind_some]
 replace hr:=hr.right
 have key1:=zaC3 (body:=zM6) (enc:=encN) (ok:=fun n=>zb6 n.aN=true∧okI n.gen∧okE n.bO=true∧fitE n.bO=true) (fun pre=>(⟨[]++s.aF,pre⟩:aD)) (fun m x rest pre hx hsrc hm hm2 hp=>by
   unfold zM6
   unfold encN at hsrc ⊢
   simp only [cE] at hsrc ⊢
   rw [bV (by simp; omega),zbl4 hx.1 hsrc,Option.bind_some,zR1 hx.2.1 hsrc.right,Option.bind_some,zcE0 hx.2.2.1 hx.2.2.2 hsrc.right.right,Option.bind_some,gdp (by first|omega|(simp only; omega)),zf5 (by omega) (by omega)])
  (fun d q=>by unfold zM6; simp) s.aQ [] _ h.n hr (by simp; omega)
 rw [key1,Option.bind_some]
 unfold zaj4
 simp only [cC,cK,bS,cA,List.nil_append,List.length_nil]
 rw [bU (by simp),zO3,Option.bind_some]
 cases zX9 s <;> rfl
theorem zbU6 {q:aA} (hs:SoundP q) {w:aT} (hw:w ∈ ordQ q):zb6 w.aN=true∧zb1 q.aB w.aK=true∧(zu9 w.aN q.aR).length+1≤8:=by
 have hvh:=(zX6 _ _).1 hs.hv
 rcases cI.1 hw with h|h
 ·obtain ⟨h1,h2,_⟩:=hs.cg w h
  refine ⟨(hvh.2.2.1.each _ (zaM3 h1)).1,h2,?_⟩
  have:=zbC0 (zbk6 hs.hv) h1
  omega
 ·have h1:=hs.wg w h
  have h2:=((zaM1 _).1 hs.wv).2.1 w h
  refine ⟨?_,h1.1,?_⟩
  ·rw [← zaJ0] at h2
   unfold zy2 at h2
   rw [zay9] at h2
   simp only [bT] at h2
   exact h2.1.1.1.1.1
  ·have:=hs.wl
   have h3:=zaL8 w.aN q.aR
   have:0 < q.aV.length:=List.length_pos_of_mem h
   omega
theorem zcE2 {l:List aT} (h:zY6 l=true) {w:aT} (hw:w ∈ l):zl3 w=true:=by
 unfold zY6 at h
 simp only [bT,bY,eJ,eG] at h
 obtain ⟨i,hi,e⟩:=eO hw
 have:=(h.2 i hi).1
 rw [bW,bZ hi] at this
 simp only [Option.getD_some,e] at this
 exact this
theorem zck6 {r:aI} {a:aC} (h:zb1 r a=true) (hs:r.aS≤1073741824):okA a:=by
 rw [zK4] at h
 unfold okA okI
 omega
theorem zbU7 {q:aA} (h:zj0 q=true):OkQ q∧q.aB.name.size≤12:=by
 have hs:=((zv9 q).1 h).1
 have hl:=zah5 h
 have hr:=hs.res
 unfold resV at hr
 simp only [bT,bY] at hr
 have hn:=zbl6 hr.1
 have hsh:=(zK3 _).1 hr.2.1
 have hu:q.aB.aS≤1073741824:=by omega
 refine ⟨⟨by omega,by unfold okI; omega,by unfold okI; omega,by unfold okI; omega,hs.gen,hl.1,hl.2.1,hl.2.2.1,fun x hx=>?_,fun x hx=>?_,fun x hx=>?_⟩,hn⟩
 ·have:=((zX6 _ _).1 hs.hv).2.2.1.each x hx
  exact ⟨this.1,zck6 this.2 hu⟩
 ·have:=zbU6 hs (w:=x) (by unfold ordQ; exact cI.2 (.inl hx))
  have h2:=hs.cg x hx
  exact ⟨this.1,zck6 this.2.1 hu,h2.2.2.2.2.1,h2.2.2.2.2.2⟩
 ·have:=zbU6 hs (w:=x) (by unfold ordQ; exact cI.2 (.inr hx))
  have h2:=zcE2 hs.wv hx
  unfold zl3 at h2
  simp only [bT,bY] at h2
  exact ⟨this.1,zck6 this.2.1 hu,by unfold okI; omega,by unfold okI; omega⟩
theorem zcE3 {l:List bC} (h:zaH5 l=true) {n:bC} (hn:n ∈ l):zb6 n.aN=true∧vE n.bO=true∧okI n.gen:=by
 unfold zaH5 at h
 rw [eJ] at h
 obtain ⟨i,hi,e⟩:=eO hn
 have:=h i (eG.2 hi)
 rw [bW,bZ hi] at this
 simp only [Option.getD_some,e] at this
 unfold zaV9 at this
 simp only [bT,bY] at this
 exact ⟨this.1.1.1.1,this.1.1.1.2,this.1.1.2,this.1.2⟩
theorem zcu5 {e:aO} (h:vE e=true):okE e=true∧fitE e=true:=by
 unfold vE at h
 rw [bT] at h
 refine ⟨?_,h.1⟩
 have h2:=h.2
 unfold zak3 at h2
 split at h2
 ·assumption
 ·cases h2
theorem zaW0 {s:aD} (h:zX9 s=true):OkS s∧∀ q ∈ s.aF,q.aB.name.size≤12:=by
 unfold zX9 at h
 simp only [bT,bY] at h
 obtain ⟨h1,h2,_⟩:=(zam6 _).1 h.1.1.1
 refine ⟨⟨h1,h.1.1.2,fun q hq=>(zbU7 (h2 q hq)).1,fun n hn=>?_⟩,fun q hq=>(zbU7 (h2 q hq)).2⟩
 obtain ⟨a,b,c⟩:=zcE3 h.1.2 hn
 exact ⟨a,c,(zcu5 b).1,(zcu5 b).2⟩
theorem zS0 {x:Int} (h:okI x):(encI x).length≤5:=(zbi7 4 x.toNat (by have:=h.1; have:=h.2; omega)).2
theorem zcK8 {s:ByteArray} (h:s.size≤1024):(encT s).length≤1029:=by
 have:=(zbi7 4 s.size (by omega)).2
 unfold encT
 rw [bX,dS,zaZ6]; omega
theorem zbK7 {p:aJ} (h:zb6 p=true):(encP p).length≤15:=by
 obtain ⟨a,b,c⟩:=zaZ7 h
 have:=zS0 a; have:=zS0 b; have:=zS0 c
 unfold encP
 simp only [bX]; omega
theorem zbK8 {a:aC} (h:okA a):(encA a).length≤10:=by
 have:=zS0 h.1; have:=zS0 h.2
 unfold encA
 simp only [bX]; omega
theorem zbl7 {α:Type} {f:α→List Int} {c:Nat}:∀ {l:List α},(∀ x ∈ l,(f x).length≤c)→(l.flatMap f).length≤c * l.length
 | [],_=>by simp
 | x :: l,h=>by
  have h1:=h x (.head _)
  have h2:=zbl7 (l:=l) fun y hy=>h y (.tail _ hy)
  rw [fE,bX,List.length_cons,Nat.mul_add]; omega
theorem zcK9:∀ (n:Nat) (e:aO),_root_.SizeOf.sizeOf e < n→okE e=true→zn7 e≤24→((encE e).length:Int)≤1100 * zn7 e
 | 0,_,h,_,_=>by omega
 | n+1,e,h,hok,hn=>by
  have hne:=zL0 e
  have hl:=zC2 e.bA
  rw [zbK6,bX]
  by_cases c:e.bA.length=0
  ·obtain ⟨k0,k1,k2⟩:=(zbi5 c).1 hok
   have:=zS0 (x:=e.k) (by rw [k0]; unfold okI; omega)
   have:=zcK8 (s:=e.bB.name) (by have:=zbl6 k1; omega)
   have:=zbK8 (zbl5 k2)
   rw [bV k0,bX]; omega
  ·obtain ⟨⟨k0,k1,k2⟩,k3⟩:=(zbi6 c).1 hok
   have e1:=zS0 (x:=e.k) (by unfold okI; omega)
   have e2:=zS0 (x:=(e.bA.length:Int)) (by unfold okI; omega)
   rw [bU (by omega),bX]
   have key:∀ l:List aO,(∀ k ∈ l,k ∈ e.bA)→((l.flatMap encE).length:Int)≤1100 * zw8 l:=by
    intro l
    induction l with
    | nil=>intro _; simp [zaZ3]
    | cons k l ih =>
     intro hk
     have h1:=zcK9 n k (zai7 h (hk k (.head _))) (zbx0 k3 (hk k (.head _))) (by have:=zaC1 (hk k (.head _)); omega)
     have h2:=ih fun y hy=>hk y (.tail _ hy)
     rw [fE,bX,zam8]; omega
   have:=key e.bA fun _ h=>h
   omega
theorem zdq5 {q:aA} (h:OkQ q):(encQ q).length≤2000:=by
 have lh:=h.lh; have lc:=h.lc; have lw:=h.lw
 have a1:=zcK8 h.name; have a2:=zS0 h.kind; have a3:=zS0 h.aS; have a4:=zS0 h.home; have a5:=zS0 h.gen
 have a6:=zS0 (x:=(q.aR.length:Int)) (by unfold okI; omega)
 have a7:=zS0 (x:=(q.aL.length:Int)) (by unfold okI; omega)
 have a8:=zS0 (x:=(q.aV.length:Int)) (by unfold okI; omega)
 have b1:=zbl7 (l:=q.aR) (f:=encH) (c:=25) fun x hx=>by
  have:=zbK7 (h.h x hx).1; have:=zbK8 (h.h x hx).2
  unfold encH; rw [bX]; omega
 have b2:=zbl7 (l:=q.aL) (f:=encC) (c:=25) fun x hx=>by
  have:=zbK7 (h.c x hx).1; have:=zbK8 (h.c x hx).2.1
  unfold encC; rw [bX]; omega
 have b3:=zbl7 (l:=q.aV) (f:=encW) (c:=35) fun x hx=>by
  have:=zbK7 (h.w x hx).1; have:=zbK8 (h.w x hx).2.1; have:=zS0 (h.w x hx).2.2.1; have:=zS0 (h.w x hx).2.2.2
  unfold encW; simp only [bX]; omega
 unfold encQ
 simp only [bX]; omega
theorem zdq6 {n:bC} (h:zb6 n.aN=true∧okI n.gen∧okE n.bO=true∧fitE n.bO=true):(encN n).length≤30000:=by
 have h4:=h.2.2.2
 unfold fitE at h4
 simp only [bT,bY] at h4
 have:=zbK7 h.1; have:=zS0 h.2.1; have:=zcK9 _ n.bO (dW _) h.2.2.1 h4.2
 unfold encN
 simp only [bX]; omega
theorem zcL0 {s:aD} (h:OkS s):(encS s).length≤300000:=by
 have lq:=h.lq; have ln:=h.ln
 have a1:=zS0 (x:=(s.aF.length:Int)) (by unfold okI; omega)
 have a2:=zS0 (x:=(s.aQ.length:Int)) (by unfold okI; omega)
 have b1:=zbl7 (l:=s.aF) (f:=encQ) (c:=2000) fun x hx=>zdq5 (h.q x hx)
 have b2:=zbl7 (l:=s.aQ) (f:=encN) (c:=30000) fun x hx=>zdq6 (h.n x hx)
 unfold encS
 simp only [bX]; omega
def zdg8 (nm:ByteArray) (h:aU):bI:=⟨1,h.aN,nm,h.aK⟩
def zak4 (nm:ByteArray) (l:List aU):List bI:=l.map (zdg8 nm)
def zbU8 (p:aJ) (nm:ByteArray) (a:aC):bI:=⟨3,p,nm,a⟩
theorem zaD8 (nm:ByteArray) (l:List aU) (hl:l.length≤1000000):zg4 nm l=some (zak4 nm l):=by
 unfold zg4
 rw [zaM9 l aU.zero (zdg8 nm) [] hl (by simp) (fun i s hi hs=>by
  unfold zaj5
  have h3:0≤(i:Int)∧(i:Int) < (l.length:Int):=by omega
  have h1:s.length+1≤4294967296:=by omega
  simp only [h1,h3.1,h3.2,cV,eR,zm1,cC,cB,Int.toNat_natCast,zc4 i (show i < 4611686018427387904 by omega)]
  rfl) (fun s=>by unfold zaj5; simp)]
 rfl
def zbU9 (t:List aA) (i:Int) (q:aA):List aA:=if 0≤i then t.set i.toNat q else t
def Lens (t:List aA):Prop:=∀ q ∈ t,q.aR.length≤1000∧q.aL.length≤1000∧q.aV.length≤1000
theorem zaC4 (t:List aA) (i:Int) (q:aA) (hl:t.length≤1000) (h0:0≤i) (hi:i < t.length):zf8 t i q=some (zbU9 t i q):=by
 unfold zf8 zbU9
 rw [zg6 (by omega),zg6 (by omega),bV h0]
theorem ValidT.lens {t:List aA} (h:ValidT t):Lens t:=fun q hq=>by
 have:=zah5 (h.each q hq)
 omega
abbrev ResT:=List aA×List bI×Int
def errT (e:Int):ResT:=([],[],e)
def putT (t:List aA) (nm:ByteArray) (x:aA×List aU×Int) (ev:List bI):ResT:=if x.2.2=0 then (zbU9 t (zz1 t nm) x.1,ev++zak4 nm x.2.1,0) else errT x.2.2
def atT (t:List aA) (nm:ByteArray) (f:aA→ResT):ResT:=if zaH4 t=false then errT 2 else if zz1 t nm < 0 then errT 10 else f (t.getD (zz1 t nm).toNat aA.zero)
def zbc6 (t:List aA) (p:aJ):Bool:=decide (8≤(zE0 t).length)&&!decide (p ∈ zE0 t)
def zaC5 (t:List aA) (p:aJ) (a:aM) (pr:Int):ResT:=atT t a.name fun q=>if zbc6 t p=true then errT 4 else putT t a.name (zX7 q p a.aK pr) []
def zaJ1 (t:List aA) (p:aJ) (nm:ByteArray):ResT:=atT t nm fun q=>putT t nm (zF4 q p) []
def zac1 (t:List aA) (p:aJ) (a:aM):ResT:=atT t a.name fun q=>putT t a.name (zC1 q p a.aK) (if getH q.aR p=a.aK then [] else [zbU8 p a.name a.aK])
theorem nd0 {P:Prop} [Decidable P] (h:P):¬ ((!decide P)=true):=by simp [h]
theorem nd1 {P:Prop} [Decidable P] (h:¬ P):(!decide P)=true:=by simp [h]
theorem zaZ8 {t:List aA} {nm:ByteArray} (h:¬ zz1 t nm < 0):0≤zz1 t nm∧zz1 t nm < t.length:=by
 rcases zaM7 (t:=t) (nm:=nm) with h1|⟨i,h1,h2,_⟩
 ·omega
 ·omega
theorem zck7 {t:List aA} (h:ValidT t) {nm:ByteArray} (hf:¬ zz1 t nm < 0):zj0 (t.getD (zz1 t nm).toNat aA.zero)=true:=by
 have:=zaZ8 hf
 exact h.each _ (zh6 (by omega))
theorem zbV0 (t:List aA) (p:aJ) (a:aM) (pr:Int):zab6 t p a pr=some (zaC5 t p a pr):=by
 unfold zab6 zaC5 atT
 rw [zam7,Option.bind_some]
 cases hv:zaH4 t with
 | false=>rfl
 | true =>
  have h:=(zah6 t).1 hv
  have hl:=h.len
  have hpl:=h.aG
  rw [ifNT,ifTF,zV1 _ _ (by omega),Option.bind_some]
  by_cases hf:zz1 t a.name < 0
  ·rw [bV (cN hf),bV hf]; rfl
  ·have hr:=zaZ8 hf
   have hsh:=zbw6 (t.getD (zz1 t a.name).toNat aA.zero) p a.aK pr
   rw [bU (by rw [bY]; exact hf),bU hf,zaN0 hl h.each,Option.bind_some,zaV6 _ _ (by omega)]
   have e8:decide (((zE0 t).length:Int)=8)=decide (8≤(zE0 t).length):=by rw [hX]; omega
   rw [e8]
   have hfu:zbc6 t p=(decide (8≤(zE0 t).length)&&!decide (p ∈ zE0 t)):=rfl
   have hb2:((if decide (8≤(zE0 t).length)=true then some (decide (p ∈ zE0 t)) else some false):Option Bool).bind (fun v4=>if (decide (8≤(zE0 t).length)&&!v4)=true then some (([],[],4):ResT) else gd (0≤zz1 t a.name∧zz1 t a.name < (t.length:Int)) <| (zI6 (t.getD (zz1 t a.name).toNat aA.zero) p a.aK pr).bind fun v5=>if (!decide (v5.2.2=0))=true then some (([],[],v5.2.2):ResT) else (zf8 t (zz1 t a.name) v5.1).bind fun v6=>(zg4 a.name v5.2.1).bind fun v7=>some ((v6,v7,0):ResT)) =
     if zbc6 t p=true then some (errT 4) else gd (0≤zz1 t a.name∧zz1 t a.name < (t.length:Int)) <| (zI6 (t.getD (zz1 t a.name).toNat aA.zero) p a.aK pr).bind fun v5=>if (!decide (v5.2.2=0))=true then some (([],[],v5.2.2):ResT) else (zf8 t (zz1 t a.name) v5.1).bind fun v6=>(zg4 a.name v5.2.1).bind fun v7=>some ((v6,v7,0):ResT):=by
    rw [hfu]
    by_cases h8:8≤(zE0 t).length
    ·simp only [h8,cC,cB,Option.bind_some,cH]; rfl
    ·simp only [h8,cJ,bS,cA,Option.bind_some,eK]
   refine Eq.trans hb2 ?_
   cases hfu2:zbc6 t p with
   | true=>rfl
   | false =>
    rw [ifFT,zg6 (by omega),zbS7,Option.bind_some]
    unfold putT
    simp only [bS,cA]
    by_cases e:(zX7 (t.getD (zz1 t a.name).toNat aA.zero) p a.aK pr).2.2=0
    ·rw [bU (nd0 e),bV e,zaC4 _ _ _ (by omega) (by omega) (by omega),Option.bind_some,zaD8 _ _ (by have:=hsh.2.2.2; omega)]; rfl
    ·rw [bV (nd1 e),bU e]; rfl
theorem zbI6 (t:List aA) (p:aJ) (nm:ByteArray):zX0 t p nm=some (zaJ1 t p nm):=by
 unfold zX0 zaJ1 atT
 rw [zam7,Option.bind_some]
 cases hv:zaH4 t with
 | false=>rfl
 | true =>
  have h:=(zah6 t).1 hv
  have hl:=h.len
  rw [ifNT,ifTF,zV1 _ _ (by omega),Option.bind_some]
  by_cases hf:zz1 t nm < 0
  ·rw [bV (cN hf),bV hf]; rfl
  ·have hr:=zaZ8 hf
   have hsh:=zbo8 (t.getD (zz1 t nm).toNat aA.zero) p
   rw [bU (by rw [bY]; exact hf),bU hf,zg6 (by omega),zbI4,Option.bind_some]
   unfold putT
   dsimp only
   by_cases e:(zF4 (t.getD (zz1 t nm).toNat aA.zero) p).2.2=0
   ·rw [bU (nd0 e),bV e,zaC4 _ _ _ (by omega) (by omega) (by omega),Option.bind_some,zaD8 _ _ (by have:=hsh.2.2.2; omega)]; rfl
   ·rw [bV (nd1 e),bU e]; rfl
theorem zaN5 (t:List aA) (p:aJ) (a:aM):zI5 t p a=some (zac1 t p a):=by
 unfold zI5 zac1 atT
 rw [zam7,Option.bind_some]
 cases hv:zaH4 t with
 | false=>rfl
 | true =>
  have h:=(zah6 t).1 hv
  have hl:=h.len
  rw [ifNT,ifTF,zV1 _ _ (by omega),Option.bind_some]
  by_cases hf:zz1 t a.name < 0
  ·rw [bV (cN hf),bV hf]; rfl
  ·have hr:=zaZ8 hf
   have hs:=zck7 h hf
   have hql:=zah5 hs
   have hsh:=zaZ0 (t.getD (zz1 t a.name).toNat aA.zero) p a.aK
   rw [bU (by rw [bY]; exact hf),bU hf,zg6 (by omega),zG7 _ _ (by omega),Option.bind_some,zg6 (by omega),zbS8,Option.bind_some]
   unfold putT
   have k1:∀ ev:List bI,ev.length≤1→(zC1 (t.getD (zz1 t a.name).toNat aA.zero) p a.aK).2.2=0→zV9 t a (zz1 t a.name) (zC1 (t.getD (zz1 t a.name).toNat aA.zero) p a.aK) ev=some (zbU9 t (zz1 t a.name) (zC1 (t.getD (zz1 t a.name).toNat aA.zero) p a.aK).1,ev++zak4 a.name (zC1 (t.getD (zz1 t a.name).toNat aA.zero) p a.aK).2.1,0):=fun ev hev e=>by
    unfold zV9
    have hg:(zak4 a.name (zC1 (t.getD (zz1 t a.name).toNat aA.zero) p a.aK).2.1).length≤16:=by unfold zak4; rw [dS]; exact hsh.2.2.2
    rw [zaC4 _ _ _ (by omega) (by omega) (by omega),Option.bind_some,zaD8 _ _ (by have:=hsh.2.2.2; omega),Option.bind_some,zg6 (by omega)]
   dsimp only
   by_cases e:(zC1 (t.getD (zz1 t a.name).toNat aA.zero) p a.aK).2.2=0
   ·rw [bU (nd0 e),bV e]
    by_cases e2:getH (t.getD (zz1 t a.name).toNat aA.zero).aR p=a.aK
    ·rw [bU (nd0 e2),bV e2,k1 [] (by simp) e]
    ·rw [bV (nd1 e2),bU e2,zg6 (by decide),k1 _ (by simp) e]; rfl
   ·rw [bV (nd1 e),bU e]; rfl
def ascR:List aI→Option ByteArray→Bool
 | [],_=>true
 | r :: l,pv=>resV r&&((match pv with|none=>true|some n=>decide (ltN n r.name))&&ascR l (some r.name))
theorem zcu6:∀ (l:List aI) (pv:Option ByteArray),ascR l pv=true ↔ (∀ r ∈ l,resV r=true)∧l.Pairwise (fun a b=>ltN a.name b.name)∧∀ n,pv=some n→∀ r ∈ l,ltN n r.name
 | [],pv=>by
  simp only [ascR,fS,iW,eR,kB,gD,true_iff]
  exact .nil
 | q :: t,pv=>by
  simp only [ascR,bT]
  rw [zcu6 t (some q.name)]
  constructor
  ·rintro ⟨h1,h2,h3,h4,h5⟩
   refine ⟨fun x hx=>?_,cU.2 ⟨fun x hx=>h5 _ rfl x hx,h4⟩,fun n hn x hx=>?_⟩
   ·rcases cF.1 hx with rfl|hx
    ·exact h1
    ·exact h3 x hx
   ·subst hn
    simp only [bY] at h2
    rcases cF.1 hx with rfl|hx
    ·exact h2
    ·exact zcd3 h2 (h5 _ rfl x hx)
  ·rintro ⟨h1,h2,h3⟩
   have h2':=cU.1 h2
   refine ⟨h1 q (.head _),?_,fun x hx=>h1 x (.tail _ hx),h2'.2,fun n hn x hx=>by cases hn; exact h2'.1 x hx⟩
   cases pv with
   | none=>rfl
   | some n=>exact cN (h3 n rfl q (.head _))
def catV (l:List aI):Bool:=decide (l.length≤8)&&ascR l none
theorem zdg9 (l:List aI):catV l=true ↔ l.length≤8∧(∀ r ∈ l,resV r=true)∧l.Pairwise (fun a b=>ltN a.name b.name):=by
 unfold catV
 rw [bT,bY,zcu6]
 simp
theorem zcS2 (t0:List aI):∀ (t prev:List aI),t0=prev++t →
  walk (fun i q (_:Unit)=>some (if resV q=true∧(i=0∨ltN (t0.getD (i - 1) aI.zero).name q.name) then Sum.inl () else Sum.inr (Sum.inr (α:=Unit) false))) (fun _=>Sum.inl (β:=Bool) ()) t prev.length () =
   some (if ascR t (prev.getLast?.map (·.name))=true then .inl () else .inr false):=by
 intro t
 induction t with
 | nil=>intro prev _; simp [walk,ascR]
 | cons q t ih =>
  intro prev ht
  simp only [walk]
  have hq:(prev.length=0∨ltN (t0.getD (prev.length - 1) aI.zero).name q.name) ↔ (match prev.getLast?.map (·.name) with|none=>true|some n=>decide (ltN n q.name))=true:=by
   by_cases hp:prev=[]
   ·subst hp; simp
   ·have h1:=zcd4 prev (q :: t) aI.zero hp
    rw [ht,h1,iX hp]
    have:prev.length≠0:=fun e=>hp (cR e)
    simp [this]
  by_cases e:resV q=true∧(prev.length=0∨ltN (t0.getD (prev.length - 1) aI.zero).name q.name)
  ·rw [bV e]
   have:=ih (prev++[q]) (by rw [ht]; simp)
   rw [show (prev++[q]).length=prev.length+1 by simp] at this
   simp only
   have h2:ascR (q :: t) (prev.getLast?.map (·.name))=ascR t (some q.name):=by simp only [ascR,e.1,hq.1 e.2,cH]
   rw [this,h2]
   simp
  ·rw [bU e]
   rw [hq] at e
   have hf:ascR (q :: t) (prev.getLast?.map (·.name))=false:=by
    rw [dY]
    intro hh
    simp only [ascR,bT] at hh
    exact e ⟨hh.1,hh.2.1⟩
   rw [hf]; rfl
theorem zdh0 {body:Int→Option (Int⊕(Unit⊕Bool))} (t:List aI) (hl:t.length≤8)
  (hb:∀ i:Nat,i < t.length→body (i:Int)=some (if resV (t.getD i aI.zero)=true∧(i=0∨ltN (t.getD (i - 1) aI.zero).name (t.getD i aI.zero).name) then .inl ((i+1:Nat):Int) else .inr (.inr false)))
  (he:body (t.length:Int)=some (.inr (.inl ()))):zc0 body 0=some (if ascR t none=true then .inl () else .inr false):=by
 have key:=zal0 (body:=body) t aI.zero (fun i (_:Unit)=>(i:Int)) (fun i q _=>some (if resV q=true∧(i=0∨ltN (t.getD (i - 1) aI.zero).name q.name) then Sum.inl () else Sum.inr (Sum.inr (α:=Unit) false))) (fun _=>Sum.inl (β:=Bool) ())
  (fun i s hi=>by
   rw [hb i hi,Option.map_some]
   split <;> rfl) (fun s=>he) ()
 have:=zcS2 t t [] rfl
 rw [show (0:Int)=(fun (i:Nat) (_:Unit)=>(i:Int)) 0 () from rfl,key]
 exact this
theorem zbj0 (t:List aI):zw3 t=some (catV t):=by
 unfold zw3 catV
 by_cases h8:8 < t.length
 ·have:¬ t.length≤8:=by omega
  rw [bV (by simp; omega)]
  simp [this]
 ·have hl:t.length≤8:=by omega
  rw [bU (by simp; omega),zdh0 t hl (fun i hi=>by
   unfold zao6
   have h3:0≤(i:Int)∧(i:Int) < (t.length:Int):=by omega
   simp only [h3.1,h3.2,cV,eR,zm1,cC,cB,Int.toNat_natCast,zbv9,Option.bind_some,zc4 i (by omega)]
   by_cases e0:i=0
   ·subst e0
    rw [zg6 (by simp)]
    cases resV (t.getD 0 aI.zero) <;> simp
   ·rw [zaA3 i (by omega) (by omega),zg6 (by intro _; omega)]
    simp only [Int.toNat_natCast,show (0:Int) < (i:Int) by omega,cC,cH,e0,iO]
    unfold ltN
    rcases hb (resV (t.getD i aI.zero)) with b1|b1 <;> rcases hb (Op.bytesLess (t.getD (i - 1) aI.zero).name.toList (t.getD i aI.zero).name.toList) with b2|b2 <;> simp [b1,b2,-List.getD_eq_getElem?_getD]) (by unfold zao6; simp)]
  simp only [hl,cC,cH]
  cases hw:ascR t none <;> rfl
def newT (l:List aI):List aA×Int:=if catV l=true then (l.map zdg0,0) else ([],1)
theorem zck8 (l:List aI):zQ3 l=some (newT l):=by
 unfold zQ3 newT
 rw [zbj0,Option.bind_some]
 cases h:catV l with
 | false=>rfl
 | true =>
  have hl:=((zdg9 l).1 h).1
  rw [ifNT,zaM9 l aI.zero zdg0 [] (by omega) (by simp) (fun i s hi hs=>by
   unfold zay5
   have h3:0≤(i:Int)∧(i:Int) < (l.length:Int):=by omega
   have h1:s.length+1≤4294967296:=by omega
   simp only [h1,h3.1,h3.2,cV,zm1,cC,cB,Int.toNat_natCast,zc4 i (show i < 4611686018427387904 by omega)]
   rfl) (fun s=>by unfold zay5; simp)]
  rfl
end Ab
end Go.Proofs.YtogpinppgncpmaaGreatDoor
