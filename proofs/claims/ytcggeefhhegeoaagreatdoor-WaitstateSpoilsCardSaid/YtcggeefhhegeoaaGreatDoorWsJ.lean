import Derived.Test.YtcggeefhhegeoaaGreatDoorTabB
import Derived.Test.YtcggeefhhegeoaaGreatDoorLinB
import Derived.Laws.Bits64
import Derived.Laws.BitsLemmas
import Derived.KernelRfl
namespace Go.Proofs.YtcggeefhhegeoaaGreatDoor
namespace Ab
set_option linter.unusedVariables false
set_option linter.unusedSimpArgs false
mutual
def zt3:aN→Int
 | ⟨_,_,ks⟩=>1+zv8 ks
def zv8:List aN→Int
 | []=>0
 | k :: l=>max (zt3 k) (zv8 l)
end
mutual
def zp9:aN→Int
 | ⟨_,_,ks⟩=>1+zz9 ks
def zz9:List aN→Int
 | []=>0
 | k :: l=>zp9 k+zz9 l
end
def zaA9 (a:aC):Bool:=zs7 a
mutual
def okE:aN→Bool
 | ⟨k,a,ks⟩=>if ks.length=0 then decide (k=0)&&zY9 a.name&&zaA9 a.aK else decide (1≤k)&&decide (k≤(ks.length:Int))&&decide (a=aM.zero)&&okL ks
def okL:List aN→Bool
 | []=>true
 | k :: l=>okE k&&okL l
end
mutual
def zaF3:aN→List aM
 | ⟨_,a,ks⟩=>if ks.length=0 then [a] else zau2 ks
def zau2:List aN→List aM
 | []=>[]
 | k :: l=>zaF3 k++zau2 l
end
theorem zaX3 (e:aN):zt3 e=1+zv8 e.bE:=by cases e; rw [zt3]
theorem zQ2 (e:aN):zp9 e=1+zz9 e.bE:=by cases e; rw [zp9]
theorem zcm9 (e:aN):okE e=if e.bE.length=0 then decide (e.k=0)&&zY9 e.bF.name&&zaA9 e.bF.aK else decide (1≤e.k)&&decide (e.k≤(e.bE.length:Int))&&decide (e.bF=aM.zero)&&okL e.bE:=by cases e; rw [okE]
theorem zaO6 (e:aN):zaF3 e=if e.bE.length=0 then [e.bF] else zau2 e.bE:=by cases e; rw [zaF3]
theorem zbt4:zv8 []=0:=by rw [zv8]
theorem zaI1 (k:aN) (l:List aN):zv8 (k :: l)=max (zt3 k) (zv8 l):=by rw [zv8]
theorem zba7:zz9 []=0:=by rw [zz9]
theorem zao3 (k:aN) (l:List aN):zz9 (k :: l)=zp9 k+zz9 l:=by rw [zz9]
theorem zao4 {e k:aN} {n:Nat} (h:_root_.SizeOf.sizeOf e < n+1) (hk:k ∈ e.bE):_root_.SizeOf.sizeOf k < n:=by
 have h2:=List.sizeOf_lt_of_mem hk
 cases e
 simp at h h2
 omega
theorem zbM4:∀ (n:Nat) (e:aN),_root_.SizeOf.sizeOf e < n→1≤zt3 e∧1≤zp9 e∧zt3 e≤zp9 e∧((zaF3 e).length:Int)≤zp9 e
 | 0,_,h=>by omega
 | n+1,e,h=>by
  have key:∀ l:List aN,(∀ k ∈ l,k ∈ e.bE)→0≤zv8 l∧0≤zz9 l∧zv8 l≤zz9 l∧(l.length:Int)≤zz9 l∧((zau2 l).length:Int)≤zz9 l:=by
   intro l
   induction l with
   | nil=>intro _; simp [zv8,zz9,zau2]
   | cons k l ih =>
    intro hl
    obtain ⟨h1,h2,h3,h4,h5⟩:=ih fun x hx=>hl x (.tail _ hx)
    obtain ⟨g1,g2,g3,g4⟩:=zbM4 n k (zao4 h (hl k (.head _)))
    simp only [zv8,zz9,zau2,cA,List.length_cons]
    refine ⟨?_,?_,?_,?_,?_⟩ <;> omega
  obtain ⟨h1,h2,h3,h4,h5⟩:=key e.bE fun _ h=>h
  rw [zaX3,zQ2,zaO6]
  refine ⟨by omega,by omega,by omega,?_⟩
  split
  ·simp; omega
  ·omega
theorem zaj1 (e:aN):1≤zt3 e:=(zbM4 _ e (eC _)).1
theorem zad7 (e:aN):1≤zp9 e:=(zbM4 _ e (eC _)).2.1
theorem zbW0 (e:aN):((zaF3 e).length:Int)≤zp9 e:=(zbM4 _ e (eC _)).2.2.2
theorem zaO7:∀ l:List aN,0≤zv8 l
 | []=>by simp [zv8]
 | k :: l=>by have:=zaO7 l; have:=zaj1 k; rw [zaI1]; omega
theorem zH2:∀ l:List aN,(l.length:Int)≤zz9 l
 | []=>by simp [zz9]
 | k :: l=>by have:=zH2 l; have:=zad7 k; simp only [zz9,List.length_cons]; omega
theorem zbx9 {a:Int} (h1:1≤a) (h4:a≤4) (F:aN→Int→Option (Int×Int)):∀ (l:List aN),(∀ k ∈ l,∀ c,0≤c→c≤24→∃ c',F k c=some (if a+1+zt3 k≤5∧c+zp9 k≤24 then (zt3 k,c+zp9 k) else (0,c'))) →
  ∀ (i:Nat) (m c:Int),0≤m→0≤c→c≤24→∃ c',walk (fun _ k (s:Int×Int)=>(F k s.2).bind fun v=>if v.1=0 then some (.inr (Sum.inr (0,v.2))) else some (.inl (if s.1 < v.1 then v.1 else s.1,v.2))) (fun s=>Sum.inl (β:=Int×Int) s) l i (m,c) =
   some (if a+1+zv8 l≤5∧c+zz9 l≤24 then .inl (if m < zv8 l then zv8 l else m,c+zz9 l) else .inr (0,c'))
 | [],_,i,m,c,hm,hc,h24=>⟨0,by rw [zbt4,zba7,bY (by omega)]; simp only [walk]; rw [bW (by omega),Int.add_zero]⟩
 | k :: l,hF,i,m,c,hm,hc,h24=>by
  obtain ⟨c1,e1⟩:=hF k (.head _) c hc h24
  have p1:=zaj1 k
  have p2:=zad7 k
  have p3:=zaO7 l
  have p4:=zH2 l
  by_cases hk:a+1+zt3 k≤5∧c+zp9 k≤24
  ·rw [bY hk] at e1
   obtain ⟨c2,e2⟩:=zbx9 h1 h4 F l (fun x hx=>hF x (.tail _ hx)) (i+1) (if m < zt3 k then zt3 k else m) (c+zp9 k) (by split <;> omega) (by omega) hk.2
   refine ⟨c2,?_⟩
   rw [zaI1,zao3]
   simp only [walk,e1,Option.bind_some,bW (show ¬ zt3 k=0 by omega),e2]
   by_cases hl:a+1+zv8 l≤5∧c+zp9 k+zz9 l≤24
   ·rw [bY hl,bY (show a+1+max (zt3 k) (zv8 l)≤5∧c+(zp9 k+zz9 l)≤24 by omega),show c+(zp9 k+zz9 l)=c+zp9 k+zz9 l by omega]
    refine dR some (dR Sum.inl (Prod.ext ?_ rfl))
    show (if (if m < zt3 k then zt3 k else m) < zv8 l then zv8 l else if m < zt3 k then zt3 k else m)=if m < max (zt3 k) (zv8 l) then max (zt3 k) (zv8 l) else m
    by_cases q1:m < zt3 k <;> by_cases q2:m < zv8 l <;> by_cases q3:zt3 k < zv8 l <;> simp only [q1,q2,q3,cE,cD] <;> (repeat' split) <;> omega
   ·rw [bW hl,bW (by omega)]
  ·rw [bW hk] at e1
   refine ⟨c1,?_⟩
   rw [zaI1,zao3]
   simp only [walk,e1,Option.bind_some,cE]
   rw [bW (by omega)]
theorem zbW1:∀ (n:Nat) (e:aN),_root_.SizeOf.sizeOf e < n→∀ a c,1≤a→a≤5→0≤c→c≤24→∃ c',zz0 n e a c=some (if a+zt3 e≤5∧c+zp9 e≤24 then (zt3 e,c+zp9 e) else (0,c'))
 | 0,_,h,_,_,_,_,_,_=>by omega
 | n+1,e,h,a,c,h1,h5,h0,h24=>by
  show ∃ c',zH5 (zz0 n) e a c=_
  unfold zH5
  have p1:=zaj1 e
  have p2:=zad7 e
  have w1:IntKind.i64.wrap (c+1)=c+1:=zd2 (by omega) (by omega)
  have w2:IntKind.i64.wrap (a+1)=a+1:=zd2 (by omega) (by omega)
  rw [w1]
  by_cases c4:4 < a∨24 < c+1
  ·rw [bY (by simpa using c4)]
   exact ⟨c+1,by rw [bW (by omega)]⟩
  ·rw [bW (by simpa using c4)]
   have hF:∀ k ∈ e.bE,∀ c,0≤c→c≤24→∃ c',zz0 n k (a+1) c=some (if a+1+zt3 k≤5∧c+zp9 k≤24 then (zt3 k,c+zp9 k) else (0,c')) :=
    fun k hk c h0 h24=>zbW1 n k (zao4 h hk) (a+1) c (by omega) (by omega) h0 h24
   have key:=zE6 (body:=zL0 (zz0 n) e a) e.bE aN.zero (fun i (s:Int×Int)=>(s.1,(i:Int),s.2))
    (fun _ k (s:Int×Int)=>(zz0 n k (a+1) s.2).bind fun v=>if v.1=0 then some (.inr (Sum.inr (0,v.2))) else some (.inl (if s.1 < v.1 then v.1 else s.1,v.2))) (fun s=>Sum.inl (β:=Int×Int) s)
    (fun i s=>(i:Int) < s.2∧s.2≤24) (fun i s hi hs=>by
     have hk:=zn0 (z:=aN.zero) hi
     obtain ⟨c',e'⟩:=hF _ hk s.2 (by omega) hs.2
     have p2:=zad7 (e.bE.getD i aN.zero)
     have p3:=zaj1 (e.bE.getD i aN.zero)
     refine ⟨?_,fun s' hs'=>?_⟩
     ·unfold zL0
      simp only
      rw [bY (by simpa using hi),gdp (by omega),w2]
      simp only [Int.toNat_natCast,e',Option.bind_some,cB,zd0 i (show i < 4611686018427387904 by omega)]
      by_cases cc:a+1+zt3 (e.bE.getD i aN.zero)≤5∧s.2+zp9 (e.bE.getD i aN.zero)≤24
      ·simp only [cc,cW,cE,bW (show ¬ zt3 (e.bE.getD i aN.zero)=0 by omega)]; rfl
      ·simp only [cc,cD,cE]; rfl
     ·rw [e',Option.bind_some] at hs'
      by_cases cc:a+1+zt3 (e.bE.getD i aN.zero)≤5∧s.2+zp9 (e.bE.getD i aN.zero)≤24
      ·simp only [cc,cW,cE,bW (show ¬ zt3 (e.bE.getD i aN.zero)=0 by omega),cV,eW] at hs'
       subst hs'
       simp only
       omega
      ·simp only [cc,cD,cE,cV,reduceCtorEq] at hs')
    (fun s hs=>by unfold zL0; simp) (0,c+1) (by simp only; omega)
   rw [show ((0,0,c+1):Int×Int×Int)=(fun (i:Nat) (s:Int×Int)=>(s.1,(i:Int),s.2)) 0 (0,c+1) from rfl,key]
   obtain ⟨c',e'⟩:=zbx9 h1 (by omega) (fun k c=>zz0 n k (a+1) c) e.bE hF 0 0 (c+1) (by decide) (by omega) (by omega)
   refine ⟨c',?_⟩
   rw [e',Option.bind_some,zaX3 e,zQ2 e]
   have p3:=zaO7 e.bE
   by_cases hh:a+1+zv8 e.bE≤5∧c+1+zz9 e.bE≤24
   ·rw [bY hh,bY (show a+(1+zv8 e.bE)≤5∧c+(1+zz9 e.bE)≤24 by omega)]
    have:(if 0 < zv8 e.bE then zv8 e.bE else 0)=zv8 e.bE:=by split <;> omega
    rw [this]
    show some (IntKind.i64.wrap (zv8 e.bE+1),c+1+zz9 e.bE)=_
    rw [zd2 (by omega) (by omega),show zv8 e.bE+1=1+zv8 e.bE by omega,show c+1+zz9 e.bE=c+(1+zz9 e.bE) by omega]
   ·rw [bW hh,bW (by omega)]
def fitE (e:aN):Bool:=decide (zt3 e≤4)&&decide (zp9 e≤24)
theorem zdj5 (e:aN):zl5 e=some (if fitE e=true then zt3 e else 0):=by
 unfold zl5 ze3
 obtain ⟨c',h⟩:=zbW1 _ e (eC _) 1 0 (by decide) (by decide) (by decide) (by decide)
 rw [h,Option.bind_some]
 unfold fitE
 by_cases c:1+zt3 e≤5∧0+zp9 e≤24
 ·rw [bY c,bY (by simp; omega)]
 ·rw [bW c,bW (by simp; omega)]
theorem zcg2 {a:Int} (h1:1≤a) (h4:a≤4) (F:aN→Option (Int×Int)):∀ (l:List aN),(∀ k ∈ l,F k=some (if a+1+zt3 k≤5∧zp9 k≤24 then (zp9 k,zt3 k) else (25,0))) →
  ∀ (i:Nat) (c m:Int),0≤m→1≤c→c≤24→walk (fun _ k (s:Int×Int)=>(F k).bind fun v=>if 24 < s.1+v.1 then some (.inr (Sum.inr (25,0))) else some (.inl (s.1+v.1,if s.2 < v.2 then v.2 else s.2))) (fun s=>Sum.inl (β:=Int×Int) s) l i (c,m) =
   some (if a+1+zv8 l≤5∧c+zz9 l≤24 then .inl (c+zz9 l,if m < zv8 l then zv8 l else m) else .inr (25,0))
 | [],_,i,c,m,hm,hc,h24=>by rw [zbt4,zba7,bY (by omega)]; simp only [walk]; rw [bW (by omega),Int.add_zero]
 | k :: l,hF,i,c,m,hm,hc,h24=>by
  have e1:=hF k (.head _)
  have p1:=zaj1 k
  have p2:=zad7 k
  have p3:=zaO7 l
  have p4:=zH2 l
  rw [zaI1,zao3]
  by_cases hk:a+1+zt3 k≤5∧c+zp9 k≤24
  ·rw [bY (by omega)] at e1
   have e2:=zcg2 h1 h4 F l (fun x hx=>hF x (.tail _ hx)) (i+1) (c+zp9 k) (if m < zt3 k then zt3 k else m) (by split <;> omega) (by omega) hk.2
   simp only [walk,e1,Option.bind_some,bW (show ¬ 24 < c+zp9 k by omega),e2]
   by_cases hl:a+1+zv8 l≤5∧c+zp9 k+zz9 l≤24
   ·rw [bY hl,bY (show a+1+max (zt3 k) (zv8 l)≤5∧c+(zp9 k+zz9 l)≤24 by omega),show c+(zp9 k+zz9 l)=c+zp9 k+zz9 l by omega]
    refine dR some (dR Sum.inl (Prod.ext rfl ?_))
    show (if (if m < zt3 k then zt3 k else m) < zv8 l then zv8 l else if m < zt3 k then zt3 k else m)=if m < max (zt3 k) (zv8 l) then max (zt3 k) (zv8 l) else m
    by_cases q1:m < zt3 k <;> by_cases q2:m < zv8 l <;> by_cases q3:zt3 k < zv8 l <;> simp only [q1,q2,q3,cE,cD] <;> (repeat' split) <;> omega
   ·rw [bW hl,bW (by omega)]
  ·rw [bW (by omega)]
   simp only [walk,e1,Option.bind_some]
   by_cases hh:a+1+zt3 k≤5∧zp9 k≤24
   ·rw [bY hh,bY (by simp only; omega)]
   ·rw [bW hh,bY (by simp only; omega)]
theorem zcM5:∀ (n:Nat) (e:aN),_root_.SizeOf.sizeOf e < n→∀ a,1≤a→a≤5→zQ6 n e a=some (if a+zt3 e≤5∧zp9 e≤24 then (zp9 e,zt3 e) else (25,0))
 | 0,_,h,_,_,_=>by omega
 | n+1,e,h,a,h1,h5=>by
  show zaf4 (zQ6 n) e a=_
  unfold zaf4
  have p1:=zaj1 e
  have p4:=zH2 e.bE
  have w2:IntKind.i64.wrap (a+1)=a+1:=zd2 (by omega) (by omega)
  by_cases c4:4 < a∨24 < (e.bE.length:Int)
  ·rw [bY (by simpa using c4),bW (by rw [zQ2]; omega)]
  ·rw [bW (by simpa using c4)]
   have hF:∀ k ∈ e.bE,zQ6 n k (a+1)=some (if a+1+zt3 k≤5∧zp9 k≤24 then (zp9 k,zt3 k) else (25,0)) :=
    fun k hk=>zcM5 n k (zao4 h hk) (a+1) (by omega) (by omega)
   have key:=zE6 (body:=zaa0 (zQ6 n) e a) e.bE aN.zero (fun i (s:Int×Int)=>(s.1,s.2,(i:Int)))
    (fun _ k (s:Int×Int)=>(zQ6 n k (a+1)).bind fun v=>if 24 < s.1+v.1 then some (.inr (Sum.inr (25,0))) else some (.inl (s.1+v.1,if s.2 < v.2 then v.2 else s.2))) (fun s=>Sum.inl (β:=Int×Int) s)
    (fun i s=>1≤s.1∧s.1≤24) (fun i s hi hs=>by
     have hk:=zn0 (z:=aN.zero) hi
     have e':=hF _ hk
     have p2:=zad7 (e.bE.getD i aN.zero)
     refine ⟨?_,fun s' hs'=>?_⟩
     ·unfold zaa0
      simp only
      rw [bY (by simpa using hi),gdp (by omega),w2]
      simp only [Int.toNat_natCast,e',Option.bind_some,cB]
      unfold zat8
      by_cases cc:a+1+zt3 (e.bE.getD i aN.zero)≤5∧zp9 (e.bE.getD i aN.zero)≤24
      ·rw [bY cc]
       simp only [zd0 i (show i < 4611686018427387904 by omega),zd2 (x:=s.1+zp9 (e.bE.getD i aN.zero)) (by omega) (by omega),cB]
       repeat' split
       all_goals first|rfl|omega
      ·rw [bW cc]
       simp only [zd2 (x:=s.1+25) (by omega) (by omega),cB,bY (show 24 < s.1+25 by omega),jI]
       rfl
     ·rw [e',Option.bind_some] at hs'
      by_cases cc:a+1+zt3 (e.bE.getD i aN.zero)≤5∧zp9 (e.bE.getD i aN.zero)≤24
      ·simp only [cc,cW,cE] at hs'
       split at hs'
       ·cases hs'
       ·simp only [cV,eW] at hs'
        subst hs'
        simp only
        omega
      ·simp only [cc,cD,bY (show 24 < s.1+25 by omega),cV,reduceCtorEq] at hs')
    (fun s hs=>by unfold zaa0; simp) (1,0) (by simp only; omega)
   rw [show ((1,0,0):Int×Int×Int)=(fun (i:Nat) (s:Int×Int)=>(s.1,s.2,(i:Int))) 0 (1,0) from rfl,key]
   rw [zcg2 h1 (by omega) (fun k=>zQ6 n k (a+1)) e.bE hF 0 1 0 (by omega) (by omega) (by omega),Option.bind_some,zaX3 e,zQ2 e]
   have p3:=zaO7 e.bE
   by_cases hh:a+1+zv8 e.bE≤5∧1+zz9 e.bE≤24
   ·rw [bY hh,bY (show a+(1+zv8 e.bE)≤5∧1+zz9 e.bE≤24 by omega)]
    have:(if 0 < zv8 e.bE then zv8 e.bE else 0)=zv8 e.bE:=by split <;> omega
    rw [this]
    show some (1+zz9 e.bE,IntKind.i64.wrap (zv8 e.bE+1))=_
    rw [zd2 (by omega) (by omega),show zv8 e.bE+1=1+zv8 e.bE by omega]
   ·rw [bW hh,bW (by omega)]
theorem zdj6 (e:aN):zo1 e=some (if fitE e=true then zp9 e else 0):=by
 unfold zo1 zo5
 have p:=zad7 e
 rw [zcM5 _ e (eC _) 1 (by decide) (by decide),Option.bind_some]
 unfold fitE
 by_cases c:1+zt3 e≤5∧zp9 e≤24
 ·rw [bY c]
  simp only [show ¬ 24 < zp9 e by omega,show zt3 e≤4 by omega,c.2,cF,cK,gK,bV,cE,cD]
 ·rw [bW c]
  have:(decide (zt3 e≤4)&&decide (zp9 e≤24))=false:=by rw [eA]; simp; omega
  rw [this]
  rfl
def zaO8 (a:aM):List aM→Option Bool
 | []=>none
 | x :: l=>if a=x then some true else if (a.name.toList == x.name.toList)=true then some false else zaO8 a l
def zby0 (a:aM) (l:List aM):Int×List aM :=
 match zaO8 a l with
 | some true=>(0,l)
 | some false=>(13,l)
 | none=>if l.length=8 then (4,l) else (0,l++[a])
def zbW2 (a:aM) (l:List aM):Option (List aM):=if (zby0 a l).1=0 then some (zby0 a l).2 else none
def zav5:List aM→List aM→Option (List aM)
 | [],l=>some l
 | a :: az,l=>(zbW2 a l).bind (zav5 az)
theorem zbW3:∀ (x y l:List aM),zav5 (x++y) l=(zav5 x l).bind (zav5 y)
 | [],y,l=>rfl
 | a :: x,y,l=>by
  simp only [List.cons_append,zav5]
  cases zbW2 a l with
  | none=>rfl
  | some l'=>exact zbW3 x y l'
theorem zdj7 {a:aM} {l:List aM} (h:l.length≤8):(zby0 a l).2.length≤8:=by
 unfold zby0
 split
 ·exact h
 ·exact h
 ·split
  ·exact h
  ·simp; omega
theorem zbD9:∀ {x l r:List aM},l.length≤8→zav5 x l=some r→r.length≤8
 | [],l,r,h,e=>by cases e; exact h
 | a :: x,l,r,h,e=>by
  simp only [zav5] at e
  unfold zbW2 at e
  split at e
  ·exact zbD9 (zdj7 h) e
  ·cases e
theorem zdu5 (a:aM) (l:List aM) (h:l.length≤8):zg3 a l=some (zby0 a l):=by
 unfold zg3
 have hw:∀ (t:List aM) (i:Nat),walk (fun _ x (_:Unit)=>if a=x then some (.inr (Sum.inr ((0:Int),l))) else if (a.name.toList == x.name.toList)=true then some (.inr (Sum.inr ((13:Int),l))) else some (.inl ())) (fun _=>Sum.inl (β:=Int×List aM) ()) t i () =
   some (match zaO8 a t with|some true=>.inr (0,l)|some false=>.inr (13,l)|none=>.inl ()):=by
  intro t
  induction t with
  | nil=>intro i; rfl
  | cons x t ih =>
   intro i
   simp only [walk,zaO8]
   by_cases c:a=x
   ·simp only [c,cE]
   ·by_cases c2:(a.name.toList == x.name.toList)=true
    ·simp only [c,c2,cE,cD]
    ·simp only [c,c2,cD]; exact ih (i+1)
 have key:=zan6 (body:=zV2 a l) l aM.zero (fun i (_:Unit)=>(i:Int))
  (fun _ x (_:Unit)=>if a=x then some (.inr (Sum.inr ((0:Int),l))) else if (a.name.toList == x.name.toList)=true then some (.inr (Sum.inr ((13:Int),l))) else some (.inl ())) (fun _=>Sum.inl (β:=Int×List aM) ())
  (fun i s hi=>by
   unfold zV2
   rw [bY (by simpa using hi),gdp (by omega),zd0 i (by omega)]
   simp only [Int.toNat_natCast,cB]
   repeat' split
   all_goals rfl)
  (fun s=>by unfold zV2; simp) ()
 rw [show (0:Int)=(fun (i:Nat) (_:Unit)=>(i:Int)) 0 () from rfl,key,hw,Option.bind_some]
 unfold zby0
 cases zaO8 a l with
 | none =>
  simp only
  unfold zar6
  by_cases c:l.length=8
  ·rw [bY (by simp [c]),bY c]
  ·rw [bW (by simp; omega),bW c,gdp (by omega)]
 | some b=>cases b <;> rfl
def zal9 (e:aN) (l:List aM):Option (List aM):=if okE e=true then zav5 (zaF3 e) l else none
def zbI2 (ks:List aN) (l:List aM):Option (List aM):=if okL ks=true then zav5 (zau2 ks) l else none
theorem zcF1 (k:aN) (ks:List aN) (l:List aM):zbI2 (k :: ks) l=(zal9 k l).bind (zbI2 ks):=by
 unfold zbI2 zal9
 simp only [okL,zau2,zbW3]
 cases okE k
 ·simp
 ·simp only [cN,cE]
  cases zav5 (zaF3 k) l with
  | none=>simp
  | some r=>simp only [Option.bind_some]
theorem zcn0 (a:aM):zi5 a=some (zY9 a.name&&zaA9 a.aK):=by
 unfold zi5
 rw [zbe2,Option.bind_some]
 congr 2
theorem zbI3 (F:aN→List aM→Option (Bool×List aM)):∀ (ks:List aN),(∀ k ∈ ks,∀ l,l.length≤8→∃ r,F k l=some (match zal9 k l with|some l'=>(true,l')|none=>(false,r))) →
  ∀ (i:Nat) (l:List aM),l.length≤8→∃ r,walk (fun _ k (s:List aM)=>(F k s).bind fun v=>if (!v.1)=true then some (.inr (Sum.inr (false,v.2))) else some (.inl v.2)) (fun s=>Sum.inl (β:=Bool×List aM) s) ks i l =
   some (match zbI2 ks l with|some l'=>.inl l'|none=>.inr (false,r))
 | [],_,i,l,hl=>⟨[],by simp [walk,zbI2,okL,zau2,zav5]⟩
 | k :: ks,hF,i,l,hl=>by
  obtain ⟨r,e⟩:=hF k (.head _) l hl
  rw [zcF1]
  cases hp:zal9 k l with
  | none =>
   rw [hp] at e
   refine ⟨r,?_⟩
   simp only [walk,e,Option.bind_some,Option.bind_none,cY,cE]
  | some l' =>
   rw [hp] at e
   have hl':l'.length≤8:=by
    unfold zal9 at hp
    split at hp
    ·exact zbD9 hl hp
    ·cases hp
   obtain ⟨r2,e2⟩:=zbI3 F ks (fun x hx=>hF x (.tail _ hx)) (i+1) l' hl'
   refine ⟨r2,?_⟩
   simp only [walk,e,Option.bind_some,cL,bV,cD,e2]
theorem zdj8 {e:aN} {l l':List aM} (hl:l.length≤8) (hp:zal9 e l=some l'):l'.length≤8:=by
 unfold zal9 at hp
 split at hp
 ·exact zbD9 hl hp
 ·cases hp
theorem zcw3:∀ (n:Nat) (e:aN),_root_.SizeOf.sizeOf e < n→zp9 e≤24→∀ l,l.length≤8→∃ r,zy0 n e l=some (match zal9 e l with|some l'=>(true,l')|none=>(false,r))
 | 0,_,h,_,_,_=>by omega
 | n+1,e,h,hn,l,hl=>by
  show ∃ r,zS2 (zy0 n) e l=_
  unfold zS2
  have p4:=zH2 e.bE
  have hne:=zQ2 e
  by_cases c:e.bE.length=0
  ·rw [bY (by simpa using c),zcn0]
   have hp:zal9 e l=if e.k=0∧zY9 e.bF.name=true∧zaA9 e.bF.aK=true then zbW2 e.bF l else none:=by
    unfold zal9
    rw [zcm9,zaO6,bY c,bY c]
    simp only [zav5,bX,cB,fR]
    split
    ·cases zbW2 e.bF l <;> rfl
    ·rfl
   rw [hp]
   by_cases c1:e.k=0
   ·simp only [c1,cF,cE,Option.bind_some,cN,gH]
    by_cases c2:zY9 e.bF.name=true∧zaA9 e.bF.aK=true
    ·simp only [c2.1,c2.2,gK,cW,cE,zdu5 e.bF l hl,Option.bind_some,cN]
     refine ⟨(zby0 e.bF l).2,?_⟩
     unfold zbW2
     by_cases c3:(zby0 e.bF l).1=0
     ·simp only [c3,cF,cE]
     ·simp only [c3,cK,cD]
    ·have:(zY9 e.bF.name&&zaA9 e.bF.aK)=false:=by rw [eA]; simpa using c2
     simp only [this,c2,bV,cD,eG]
     exact ⟨l,rfl⟩
   ·simp only [c1,cK,bV,cD,Option.bind_some,eG,iQ]
    exact ⟨l,rfl⟩
  ·rw [bW (by simpa using c)]
   have hp:zal9 e l=if 1≤e.k∧e.k≤(e.bE.length:Int)∧e.bF=aM.zero then zbI2 e.bE l else none:=by
    unfold zal9 zbI2
    rw [zcm9,zaO6,bW c,bW c]
    by_cases q1:1≤e.k <;> by_cases q2:e.k≤(e.bE.length:Int) <;> by_cases q3:e.bF=aM.zero <;> simp [q1,q2,q3]
   rw [hp]
   by_cases c1:1≤e.k∧e.k≤(e.bE.length:Int)∧e.bF=aM.zero
   ·rw [bY c1,bW (by simp [c1.2.2]; omega)]
    have hF:∀ k ∈ e.bE,∀ l,l.length≤8→∃ r,zy0 n k l=some (match zal9 k l with|some l'=>(true,l')|none=>(false,r)):=by
     intro k hk l hl
     refine zcw3 n k (zao4 h hk) ?_ l hl
     have:∀ (ks:List aN),k ∈ ks→zp9 k≤zz9 ks:=by
      intro ks
      induction ks with
      | nil=>intro h; cases h
      | cons x ks ih =>
       intro h
       rw [zao3]
       have p1:=zad7 x
       have p2:=zH2 ks
       rcases cJ.1 h with rfl|h
       ·omega
       ·have:=ih h; omega
     have:=this e.bE hk
     omega
    have key:=zE6 (body:=zO3 (zy0 n) e) e.bE aN.zero (fun i (s:List aM)=>((i:Int),s))
     (fun _ k (s:List aM)=>(zy0 n k s).bind fun v=>if (!v.1)=true then some (.inr (Sum.inr (false,v.2))) else some (.inl v.2)) (fun s=>Sum.inl (β:=Bool×List aM) s)
     (fun i s=>s.length≤8) (fun i s hi hs=>by
      obtain ⟨r,er⟩:=hF _ (zn0 (z:=aN.zero) hi) s hs
      refine ⟨?_,fun s' hs'=>?_⟩
      ·unfold zO3
       simp only
       rw [bY (by simpa using hi),gdp (by omega)]
       simp only [Int.toNat_natCast,er,Option.bind_some,zd0 i (show i < 4611686018427387904 by omega)]
       cases zal9 (e.bE.getD i aN.zero) s <;> rfl
      ·rw [er,Option.bind_some] at hs'
       cases hq:zal9 (e.bE.getD i aN.zero) s with
       | none=>rw [hq] at hs'; simp at hs'
       | some l' =>
        rw [hq] at hs'
        simp only [cL,bV,cD,cV,eW] at hs'
        subst hs'
        exact zdj8 hs hq)
     (fun s hs=>by unfold zO3; simp) l hl
    rw [show ((0,l):Int×List aM)=(fun (i:Nat) (s:List aM)=>((i:Int),s)) 0 l from rfl,key]
    obtain ⟨r,er⟩:=zbI3 (zy0 n) e.bE hF 0 l hl
    rw [er,Option.bind_some]
    refine ⟨r,?_⟩
    cases zbI2 e.bE l <;> rfl
   ·rw [bW c1,bY (by
     simp only [dY,cB,dB,dD]
     by_cases q:e.bF=aM.zero
     ·left; have:=mt (fun h:1≤e.k∧e.k≤(e.bE.length:Int)=>(⟨h.1,h.2,q⟩:1≤e.k∧e.k≤(e.bE.length:Int)∧e.bF=aM.zero)) c1; omega
     ·exact .inr q)]
    exact ⟨l,rfl⟩
theorem zbj6 (e:aN):zq3 e=some (fitE e&&(zal9 e []).isSome):=by
 unfold zq3
 rw [zdj5,Option.bind_some]
 have p:=zaj1 e
 cases hf:fitE e with
 | false=>rfl
 | true =>
  simp only [cE,show ¬ zt3 e=0 by omega,cK,cY,cN]
  unfold zo6
  have hn:zp9 e≤24:=by unfold fitE at hf; simp at hf; omega
  obtain ⟨r,er⟩:=zcw3 _ e (eC _) hn [] (by simp)
  rw [er,Option.bind_some]
  cases zal9 e [] <;> rfl
def addA (a:aM) (l:List aM):List aM:=if a ∈ l then l else l++[a]
def addS:List aM→List aM→List aM
 | [],l=>l
 | a :: az,l=>addS az (addA a l)
theorem zcw4:∀ (x y l:List aM),addS (x++y) l=addS y (addS x l)
 | [],_,_=>rfl
 | a :: x,y,l=>zcw4 x y (addA a l)
theorem zdj9 (a:aM) (l:List aM):∃ t,addA a l=l++t:=by
 unfold addA
 split
 ·exact ⟨[],by simp⟩
 ·exact ⟨[a],rfl⟩
theorem zbW4:∀ (x l:List aM),∃ t,addS x l=l++t
 | [],l=>⟨[],by simp [addS]⟩
 | a :: x,l=>by
  obtain ⟨t1,h1⟩:=zdj9 a l
  obtain ⟨t2,h2⟩:=zbW4 x (addA a l)
  exact ⟨t1++t2,by rw [addS,h2,h1,cG]⟩
theorem zcn1:∀ (x l:List aM),(addS x l).length≤l.length+x.length
 | [],l=>by simp [addS]
 | a :: x,l=>by
  have h1:=zcn1 x (addA a l)
  have h2:(addA a l).length≤l.length+1:=by unfold addA; split <;> simp
  simp only [addS,List.length_cons]; omega
def dnN (l:List aM):Prop:=l.Pairwise fun x y=>(x.name.toList == y.name.toList)=false
theorem zcg3 {a:aM}:∀ {l:List aM},dnN l→a ∈ l→zaO8 a l=some true
 | x :: l,h,hm=>by
  unfold dnN at h
  rw [cX] at h
  unfold zaO8
  by_cases c:a=x
  ·rw [bY c]
  ·rw [bW c]
   rcases cJ.1 hm with e|hm
   ·exact absurd e c
   ·have:=h.1 a hm
    rw [bW (by rw [dH]; intro e; rw [e] at this; simp at this)]
    exact zcg3 h.2 hm
theorem zbt5 {a:aM}:∀ {l:List aM},zaO8 a l=none→∀ x ∈ l,(x.name.toList == a.name.toList)=false
 | y :: l,h,x,hx=>by
  unfold zaO8 at h
  split at h
  ·cases h
  ·split at h
   ·cases h
   ·rename_i h1 h2
    rcases cJ.1 hx with rfl|hx
    ·rw [eA]
     intro e
     rw [dH] at e
     exact h2 (by rw [dH]; exact e.symm)
    ·exact zbt5 h x hx
theorem zbI4 {a:aM}:∀ {l:List aM},dnN l→zaO8 a l=some false→a ∉ l∧∃ x ∈ l,(x.name.toList == a.name.toList)=true
 | y :: l,hd,h=>by
  refine ⟨fun hm=>?_,?_⟩
  ·rw [zcg3 hd hm] at h; cases h
  ·unfold zaO8 at h
   split at h
   ·cases h
   ·split at h
    ·rename_i h2
     exact ⟨y,.head _,by rw [dH] at h2 ⊢; exact h2.symm⟩
    ·unfold dnN at hd
     rw [cX] at hd
     obtain ⟨_,x,hx,e⟩:=zbI4 hd.2 h
     exact ⟨x,.tail _ hx,e⟩
theorem zcF2 {a:aM} {l:List aM} (h:zaO8 a l=none):a ∉ l:=fun hm=>by
 have:=zbt5 h a hm
 simp at this
theorem zdu6 {l t:List aM} (h:dnN (l++t)):dnN l:=(fF.1 h).1
theorem zbt6:∀ (x l:List aM),l.length≤8→dnN l→((zav5 x l).isSome=true ↔ (addS x l).length≤8∧dnN (addS x l))
 | [],l,h8,hd=>by simp [zav5,addS,h8,hd]
 | a :: x,l,h8,hd=>by
  simp only [zav5,addS]
  unfold zbW2 zby0
  cases hn:zaO8 a l with
  | some b =>
   cases b with
   | true =>
    have hm:a ∈ l:=by
     refine Classical.byContradiction fun hm=>?_
     have:∀ l:List aM,a ∉ l→zaO8 a l≠some true:=by
      intro l
      induction l with
      | nil=>intro _ h; cases h
      | cons y l ih =>
       intro hm h
       unfold zaO8 at h
       rw [bW (fun (e:a=y)=>hm (by rw [e]; exact .head _))] at h
       split at h
       ·cases h
       ·exact ih (fun h=>hm (.tail _ h)) h
     exact this l hm hn
    simp only [cE,Option.bind_some]
    unfold addA
    rw [bY hm]
    exact zbt6 x l h8 hd
   | false =>
    obtain ⟨hm,y,hy,e⟩:=zbI4 hd hn
    simp only [show ¬ (13:Int)=0 by decide,cD,Option.bind_none,Option.isSome_none,bV,false_iff]
    rintro ⟨_,h2⟩
    unfold addA at h2
    rw [bW hm] at h2
    obtain ⟨t,ht⟩:=zbW4 x (l++[a])
    rw [ht] at h2
    have h3:=(fF.1 (zdu6 h2)).2.2 y hy a (dQ.2 rfl)
    rw [e] at h3; cases h3
  | none =>
   have hm:=zcF2 hn
   have ha:addA a l=l++[a]:=by unfold addA; rw [bW hm]
   rw [ha]
   by_cases c:l.length=8
   ·simp only [c,cE,show ¬ (4:Int)=0 by decide,cD,Option.bind_none,Option.isSome_none,bV,false_iff]
    rintro ⟨h1,_⟩
    obtain ⟨t,ht⟩:=zbW4 x (l++[a])
    rw [ht] at h1
    simp at h1
    omega
   ·simp only [c,cD,cE,Option.bind_some]
    refine zbt6 x (l++[a]) (by simp; omega) ?_
    unfold dnN
    rw [fF]
    exact ⟨hd,iG _ _,fun y hy z hz=>by rw [dQ.1 hz]; exact zbt5 hn y hy⟩
def addO (e:aN) (l:List aM):Option (List aM):=if okE e=true then some (addS (zaF3 e) l) else none
def addL (ks:List aN) (l:List aM):Option (List aM):=if okL ks=true then some (addS (zau2 ks) l) else none
theorem zcT4 (k:aN) (ks:List aN) (l:List aM):addL (k :: ks) l=(addO k l).bind (addL ks):=by
 unfold addL addO
 simp only [okL,zau2,zcw4]
 cases okE k <;> simp
def bad1 (r:Nat⊕(Bool×List aM)):Prop:=match r with|.inl _=>True|.inr v=>v.1=false
def got1 (F:Option (Nat⊕(Bool×List aM))) (o:Option (List aM)):Prop:=match o with|some l=>F=some (.inr (true,l))|none=>∃ r,F=some r∧bad1 r
theorem zcT5 (a:aM) (l:List aM) {X:Type} (x:X) {body:Int→Option (Int⊕(Unit⊕X))} (hl:l.length < 4611686018427387904)
  (hb:∀ i:Nat,i < l.length→body (i:Int)=if l.getD i aM.zero=a then some (.inr (.inr x)) else some (.inl ((i+1:Nat):Int))) (he:body (l.length:Int)=some (.inr (.inl ()))) :
  zc0 body 0=some (if a ∈ l then .inr x else .inl ()):=by
 have hw:∀ (t:List aM) (i:Nat),walk (fun _ y (_:Unit)=>if y=a then some (.inr (Sum.inr x)) else some (.inl ())) (fun _=>Sum.inl (β:=X) ()) t i ()=some (if a ∈ t then .inr x else .inl ()):=by
  intro t
  induction t with
  | nil=>intro i; simp [walk]
  | cons y t ih =>
   intro i
   simp only [walk]
   by_cases c:y=a
   ·rw [bY c]; simp [c]
   ·rw [bW c]
    simp only [ih (i+1),cJ,show ¬ a=y from fun e=>c e.symm,iK]
 have key:=zan6 (body:=body) l aM.zero (fun i (_:Unit)=>(i:Int)) (fun _ y (_:Unit)=>if y=a then some (.inr (Sum.inr x)) else some (.inl ())) (fun _=>Sum.inl (β:=X) ())
  (fun i s hi=>by rw [hb i hi]; split <;> rfl) (fun s=>he) ()
 rw [show (0:Int)=(fun (i:Nat) (_:Unit)=>(i:Int)) 0 () from rfl,key,hw]
theorem zbW5 (F:aN→List aM→Option (Nat⊕(Bool×List aM))) {Y:Type} {B:Nat}:∀ (ks:List aN),(∀ k ∈ ks,∀ l,(l.length:Int)+zp9 k≤B→got1 (F k l) (addO k l)) →
  ∀ (i:Nat) (l:List aM),(l.length:Int)+zz9 ks≤B→(match addL ks l with
   | some l'=>walk (fun _ k (s:List aM)=>(F k s).bind fun v=>match v with|.inl v=>some (.inr (Sum.inr (Sum.inl s.length)))|.inr v=>if (!v.1)=true then some (.inr (Sum.inr (.inl s.length))) else some (.inl v.2)) (fun s=>Sum.inl (β:=Nat⊕Y) s) ks i l=some (.inl l')
   | none=>∃ r,walk (fun _ k (s:List aM)=>(F k s).bind fun v=>match v with|.inl v=>some (.inr (Sum.inr (Sum.inl s.length)))|.inr v=>if (!v.1)=true then some (.inr (Sum.inr (.inl s.length))) else some (.inl v.2)) (fun s=>Sum.inl (β:=Nat⊕Y) s) ks i l=some (.inr (.inl r)))
 | [],_,i,l,hl=>by simp [walk,addL,okL,zau2,addS]
 | k :: ks,hF,i,l,hl=>by
  rw [zao3] at hl
  have p1:=zH2 ks
  have e:=hF k (.head _) l (by omega)
  rw [zcT4]
  cases hp:addO k l with
  | none =>
   rw [hp] at e
   obtain ⟨r,er,hb⟩:=e
   simp only [Option.bind_none]
   refine ⟨l.length,?_⟩
   simp only [walk,er,Option.bind_some]
   cases r with
   | inl r=>rfl
   | inr v =>
    have hv:v.1=false:=hb
    simp only [hv,cY,cE]
  | some l' =>
   rw [hp] at e
   have e':F k l=some (.inr (true,l')):=e
   have hl':(l'.length:Int)≤l.length+zp9 k:=by
    unfold addO at hp
    split at hp
    ·cases hp
     have h1:=zcn1 (zaF3 k) l
     have h2:=zbW0 k
     omega
    ·cases hp
   have e2:=zbW5 (Y:=Y) F ks (fun x hx=>hF x (.tail _ hx)) (i+1) l' (by omega)
   simp only [walk,e',Option.bind_some,cL,bV,cD]
   exact e2
theorem zaL5 {e k:aN} (hk:k ∈ e.bE):zp9 k+1≤zp9 e:=by
 have:∀ (ks:List aN),k ∈ ks→zp9 k≤zz9 ks:=by
  intro ks
  induction ks with
  | nil=>intro h; cases h
  | cons x ks ih =>
   intro h
   rw [zao3]
   have p1:=zad7 x
   have p2:=zH2 ks
   rcases cJ.1 h with rfl|h
   ·omega
   ·have:=ih h; omega
 have:=this e.bE hk
 rw [zQ2 e]; omega
theorem zbj7 {e:aN} (c:e.bE.length=0):okE e=true ↔ e.k=0∧zY9 e.bF.name=true∧zaA9 e.bF.aK=true:=by
 rw [zcm9,bY c]; simp [fR]
theorem zbj8 {e:aN} (c:¬ e.bE.length=0):okE e=true ↔ (1≤e.k∧e.k≤(e.bE.length:Int)∧e.bF=aM.zero)∧okL e.bE=true:=by
 rw [zcm9,bW c]; simp [fR]
theorem zbE0 {e:aN} (c:e.bE.length=0) (l:List aM):addO e l=if e.k=0∧zY9 e.bF.name=true∧zaA9 e.bF.aK=true then some (addA e.bF l) else none:=by
 unfold addO
 rw [zaO6,bY c]
 simp only [zbj7 c]
 rfl
theorem zcg4 {e:aN} (c:¬ e.bE.length=0) (l:List aM):addO e l=if 1≤e.k∧e.k≤(e.bE.length:Int)∧e.bF=aM.zero then addL e.bE l else none:=by
 unfold addO addL
 rw [zaO6,bW c]
 simp only [zbj8 c]
 by_cases c1:1≤e.k∧e.k≤(e.bE.length:Int)∧e.bF=aM.zero <;> simp only [c1,gH,iQ,cE,cD,cW]
theorem zdk0:∀ (n:Nat) (e:aN),_root_.SizeOf.sizeOf e < n→∀ l,(l.length:Int)+zp9 e≤100→got1 (zC5 n e l) (addO e l)
 | 0,_,h,_,_=>by omega
 | n+1,e,h,l,hl=>by
  show got1 (zB1 (zC5 n) e l) _
  unfold zB1
  have p4:=zH2 e.bE
  have hne:=zQ2 e
  by_cases c:e.bE.length=0
  ·rw [bY (by simpa using c),zbE0 c]
   by_cases c1:e.k=0
   ·simp only [c1,cF,cE,zaE9,Option.bind_some,cL,dF,gH]
    by_cases c2:zY9 e.bF.name=true∧zaA9 e.bF.aK=true
    ·rw [bY c2,bW (by have:=c2.2; unfold zaA9 at this; simp [c2.1,this])]
     rw [zcT5 e.bF l (x:=Sum.inr (true,l)) (by omega) (fun i hi=>by
      unfold zal2
      rw [bY (by simpa using hi),gdp (by omega),zd0 i (by omega)]
      simp only [Int.toNat_natCast,cB]) (by unfold zal2; simp),Option.bind_some]
     unfold addA got1
     by_cases c3:e.bF ∈ l
     ·simp only [c3,cE]
     ·simp only [c3,cD]
      unfold zaz7
      rw [gdp (by omega)]
    ·rw [bW c2,bY (by
      have:¬ (zY9 e.bF.name=true∧zs7 e.bF.aK=true):=c2
      simp only [dY,dB]
      cases h1:zY9 e.bF.name <;> cases h2:zs7 e.bF.aK <;> simp_all)]
     exact ⟨_,rfl,rfl⟩
   ·simp only [c1,cK,bV,cD,Option.bind_some,cY,fQ,cE,iQ]
    exact ⟨_,rfl,rfl⟩
  ·rw [bW (by simpa using c),zcg4 c]
   by_cases c1:1≤e.k∧e.k≤(e.bE.length:Int)∧e.bF=aM.zero
   ·rw [bY c1,bW (by simp [c1.2.2]; omega)]
    have hF:∀ k ∈ e.bE,∀ l,(l.length:Int)+zp9 k≤(100:Nat)→got1 (zC5 n k l) (addO k l):=fun k hk l hl=>zdk0 n k (zao4 h hk) l hl
    have key:=zE6 (body:=zab5 (zC5 n) e) e.bE aN.zero (fun i (s:List aM)=>((i:Int),s))
     (fun _ k (s:List aM)=>(zC5 n k s).bind fun v=>match v with|.inl v=>some (.inr (Sum.inr (Sum.inl s.length)))|.inr v=>if (!v.1)=true then some (.inr (Sum.inr (.inl s.length))) else some (.inl v.2)) (fun s=>Sum.inl (β:=Nat⊕(Bool×List aM)) s)
     (fun i s=>True) (fun i s hi hs=>by
      refine ⟨?_,fun s' hs'=>trivial⟩
      unfold zab5
      simp only
      rw [bY (by simpa using hi),gdp (by omega)]
      simp only [Int.toNat_natCast,zd0 i (show i < 4611686018427387904 by omega)]
      cases zC5 n (e.bE.getD i aN.zero) s with
      | none=>rfl
      | some v =>
       cases v with
       | inl v=>rfl
       | inr v =>
        simp only [Option.bind_some]
        split <;> rfl)
     (fun s hs=>by unfold zab5; simp) l trivial
    rw [show ((0,l):Int×List aM)=(fun (i:Nat) (s:List aM)=>((i:Int),s)) 0 l from rfl,key]
    have er:=zbW5 (zC5 n) (Y:=Bool×List aM) (B:=100) e.bE hF 0 l (by omega)
    cases ha:addL e.bE l with
    | none =>
     rw [ha] at er
     obtain ⟨r,er⟩:=er
     rw [er,Option.bind_some]
     exact ⟨_,rfl,trivial⟩
    | some l' =>
     rw [ha] at er
     simp only at er
     rw [er,Option.bind_some]
     rfl
   ·rw [bW c1,bY (by
     simp only [dY,cB,dB,dD]
     by_cases q:e.bF=aM.zero
     ·left; have:=mt (fun h:1≤e.k∧e.k≤(e.bE.length:Int)=>(⟨h.1,h.2,q⟩:1≤e.k∧e.k≤(e.bE.length:Int)∧e.bF=aM.zero)) c1; omega
     ·exact .inr q)]
    exact ⟨_,rfl,rfl⟩
def bad0 (r:Nat⊕(List aM×Bool)):Prop:=match r with|.inl _=>True|.inr v=>v.2=false
theorem zdu7 (e:aN) (hl:zp9 e≤50):match addO e [] with|some l=>zw2 e=some (.inr (l,true))|none=>∃ r,zw2 e=some r∧bad0 r:=by
 unfold zw2
 show match addO e [] with|some l=>zN2 _ e=some (.inr (l,true))|none=>∃ r,zN2 _ e=some r∧bad0 r
 unfold zN2
 have p4:=zH2 e.bE
 have hne:=zQ2 e
 by_cases c:e.bE.length=0
 ·rw [bY (by simpa using c),zbE0 c]
  by_cases c1:e.k=0
  ·simp only [c1,cF,cE,zaE9,Option.bind_some,cL,dF,gH]
   by_cases c2:zY9 e.bF.name=true∧zaA9 e.bF.aK=true
   ·rw [bY c2,bW (by have:=c2.2; unfold zaA9 at this; simp [c2.1,this])]
    rw [ze0]
    unfold zap9
    rfl
   ·rw [bW c2,bY (by
     have:¬ (zY9 e.bF.name=true∧zs7 e.bF.aK=true):=c2
     simp only [dY,dB]
     cases h1:zY9 e.bF.name <;> cases h2:zs7 e.bF.aK <;> simp_all)]
    exact ⟨_,rfl,rfl⟩
  ·simp only [c1,cK,bV,cD,Option.bind_some,cY,fQ,cE,iQ]
   exact ⟨_,rfl,rfl⟩
 ·rw [bW (by simpa using c),zcg4 c]
  by_cases c1:1≤e.k∧e.k≤(e.bE.length:Int)∧e.bF=aM.zero
  ·rw [bY c1,bW (by simp [c1.2.2]; omega)]
   have hF:∀ k ∈ e.bE,∀ l,(l.length:Int)+zp9 k≤(100:Nat)→got1 (zq5 k l) (addO k l):=fun k hk l hl=>zdk0 _ k (eC _) l hl
   have key:=zE6 (body:=zW8 e) e.bE aN.zero (fun i (s:List aM)=>((i:Int),s))
    (fun _ k (s:List aM)=>(zq5 k s).bind fun v=>match v with|.inl v=>some (.inr (Sum.inr (Sum.inl s.length)))|.inr v=>if (!v.1)=true then some (.inr (Sum.inr (.inl s.length))) else some (.inl v.2)) (fun s=>Sum.inl (β:=Nat⊕(List aM×Bool)) s)
    (fun i s=>True) (fun i s hi hs=>by
     refine ⟨?_,fun s' hs'=>trivial⟩
     unfold zW8
     simp only
     rw [bY (by simpa using hi),gdp (by omega)]
     simp only [Int.toNat_natCast,zd0 i (show i < 4611686018427387904 by omega)]
     cases zq5 (e.bE.getD i aN.zero) s with
     | none=>rfl
     | some v =>
      cases v with
      | inl v=>rfl
      | inr v =>
       simp only [Option.bind_some]
       split <;> rfl)
    (fun s hs=>by unfold zW8; simp) [] trivial
   rw [show ((0,[]):Int×List aM)=(fun (i:Nat) (s:List aM)=>((i:Int),s)) 0 [] from rfl,key]
   have er:=zbW5 (zq5) (Y:=List aM×Bool) (B:=100) e.bE hF 0 [] (by simp; omega)
   cases ha:addL e.bE [] with
   | none =>
    rw [ha] at er
    obtain ⟨r,er⟩:=er
    simp only
    rw [er,Option.bind_some]
    exact ⟨_,rfl,trivial⟩
   | some l' =>
    rw [ha] at er
    simp only at er ⊢
    rw [er,Option.bind_some]
    rfl
  ·rw [bW c1,bY (by
    simp only [dY,cB,dB,dD]
    by_cases q:e.bF=aM.zero
    ·left; have:=mt (fun h:1≤e.k∧e.k≤(e.bE.length:Int)=>(⟨h.1,h.2,q⟩:1≤e.k∧e.k≤(e.bE.length:Int)∧e.bF=aM.zero)) c1; omega
    ·exact .inr q)]
   exact ⟨_,rfl,rfl⟩
def vE (e:aN):Bool:=fitE e&&(zal9 e []).isSome
theorem zcg5 (e:aN):(zal9 e []).isSome=true ↔ ∃ l,addO e []=some l∧l.length≤8∧dnN l:=by
 unfold zal9 addO
 by_cases c:okE e=true
 ·rw [bY c,bY c,zbt6 _ [] (by simp) .nil]
  constructor
  ·exact fun h=>⟨_,rfl,h⟩
  ·rintro ⟨l,e,h⟩
   cases e; exact h
 ·rw [bW c,bW c]
  simp
theorem zcw5 (v:List aM×Bool) (i:Nat) (hi:i < v.1.length) (hl:v.1.length≤1000) :
  zc0 (zW9 v (i:Int)) 0=some (if (v.1.take i).any (fun x=>(v.1.getD i aM.zero).name.toList == x.name.toList)=true then .inr ([],false) else .inl ()):=by
 have hw:∀ (t:List aM) (j:Nat),walk (fun _ x (_:Unit)=>if ((v.1.getD i aM.zero).name.toList == x.name.toList)=true then some (.inr (Sum.inr (([]:List aM),false))) else some (.inl ())) (fun _=>Sum.inl (β:=List aM×Bool) ()) t j () =
   some (if t.any (fun x=>(v.1.getD i aM.zero).name.toList == x.name.toList)=true then .inr ([],false) else .inl ()):=by
  intro t
  induction t with
  | nil=>intro j; rfl
  | cons x t ih =>
   intro j
   simp only [walk,List.any_cons]
   by_cases c:((v.1.getD i aM.zero).name.toList == x.name.toList)=true
   ·simp only [c,cE,fQ]
   ·simp only [fX] at c
    simp only [c,dF,bV,cD]
    exact ih (j+1)
 have hlen:(v.1.take i).length=i:=by rw [dG]; omega
 have key:=zan6 (body:=zW9 v (i:Int)) (v.1.take i) aM.zero (fun j (_:Unit)=>(j:Int))
  (fun _ x (_:Unit)=>if ((v.1.getD i aM.zero).name.toList == x.name.toList)=true then some (.inr (Sum.inr (([]:List aM),false))) else some (.inl ())) (fun _=>Sum.inl (β:=List aM×Bool) ())
  (fun j s hj=>by
   rw [hlen] at hj
   unfold zW9
   rw [bY (by simp; omega),gdp (by omega),gdp (by omega),zd0 j (by omega),zcf2 _ _ _ _ hj]
   simp only [Int.toNat_natCast]
   split <;> rfl)
  (fun s=>by unfold zW9; rw [hlen]; simp) ()
 rw [show (0:Int)=(fun (j:Nat) (_:Unit)=>(j:Int)) 0 () from rfl,key,hw]
theorem zbI5 (v:List aM×Bool) (hl:v.1.length≤1000):(dnN v.1→zc0 (zP8 v) 0=some (.inl ()))∧(¬ dnN v.1→zc0 (zP8 v) 0=some (.inr ([],false))):=by
 have key:=zan6 (body:=zP8 v) v.1 aM.zero (fun i (_:Unit)=>(i:Int))
  (fun i a (_:Unit)=>if (v.1.take i).any (fun x=>a.name.toList == x.name.toList)=true then some (.inr (Sum.inr (([]:List aM),false))) else some (.inl ())) (fun _=>Sum.inl (β:=List aM×Bool) ())
  (fun i s hi=>by
   unfold zP8
   rw [bY (by simpa using hi),zcw5 v i hi hl]
   split
   ·rfl
   ·show some _=_
    rw [zd0 i (by omega)]; rfl)
  (fun s=>by unfold zP8; simp) ()
 have hw:∀ (t prev:List aM),v.1=prev++t→dnN prev→(dnN v.1→walk (fun i a (_:Unit)=>if (v.1.take i).any (fun x=>a.name.toList == x.name.toList)=true then some (.inr (Sum.inr (([]:List aM),false))) else some (.inl ())) (fun _=>Sum.inl (β:=List aM×Bool) ()) t prev.length ()=some (.inl ())) ∧
   (¬ dnN v.1→walk (fun i a (_:Unit)=>if (v.1.take i).any (fun x=>a.name.toList == x.name.toList)=true then some (.inr (Sum.inr (([]:List aM),false))) else some (.inl ())) (fun _=>Sum.inl (β:=List aM×Bool) ()) t prev.length ()=some (.inr ([],false))):=by
  intro t
  induction t with
  | nil=>intro prev h hd; exact ⟨fun _=>rfl,fun hn=>absurd (by rw [h,dX]; exact hd) hn⟩
  | cons a t ih =>
   intro prev h hd
   have ht:v.1.take prev.length=prev:=by rw [h,List.take_left']; rfl
   simp only [walk,ht]
   by_cases c:prev.any (fun x=>a.name.toList == x.name.toList)=true
   ·have hn:¬ dnN v.1:=by
     intro hd2
     rw [h] at hd2
     obtain ⟨x,hx,e⟩:=jJ.1 c
     have:=(fF.1 hd2).2.2 x hx a (.head _)
     rw [dH] at e
     rw [← e] at this
     simp at this
    exact ⟨fun h=>absurd h hn,fun _=>by rw [bY c]⟩
   ·rw [bW c]
    have hd3:dnN (prev++[a]):=by
     unfold dnN
     rw [fF]
     refine ⟨hd,iG _ _,fun x hx y hy=>?_⟩
     rw [dQ.1 hy,eA]
     intro e
     rw [dH] at e
     exact c (jJ.2 ⟨x,hx,by rw [dH]; exact e.symm⟩)
    have:=ih (prev++[a]) (by rw [h]; simp) hd3
    rw [show (prev++[a]).length=prev.length+1 by simp] at this
    exact this
 have:=hw v.1 [] rfl .nil
 rw [show (0:Int)=(fun (i:Nat) (_:Unit)=>(i:Int)) 0 () from rfl,key]
 exact this
theorem zZ2 (e:aN):zz3 e=some (vE e):=by
 unfold zz3 zp1
 rw [zdj6,Option.bind_some]
 have p:=zad7 e
 unfold vE
 cases hf:fitE e with
 | false=>rfl
 | true =>
  have hn:zp9 e≤24:=by unfold fitE at hf; simp at hf; omega
  simp only [cE,show ¬ zp9 e=0 by omega,cK,bV,cD,cN]
  have ha:=zdu7 e (by omega)
  have hp:=zcg5 e
  cases hadd:addO e [] with
  | none =>
   rw [hadd] at ha hp
   obtain ⟨r,er,hb⟩:=ha
   have hf:(zal9 e []).isSome=false:=by
    rw [eA]; intro h
    obtain ⟨l,e,_⟩:=hp.1 h
    cases e
   rw [er,hf,Option.bind_some]
   cases r with
   | inl r=>rfl
   | inr v =>
    have hv:v.2=false:=hb
    simp only [hv,cY,fQ,cE,Option.bind_some]
  | some l =>
   rw [hadd] at ha hp
   simp only at ha
   have hl:l.length≤24:=by
    unfold addO at hadd
    split at hadd
    ·cases hadd
     have h1:=zcn1 (zaF3 e) []
     have h2:=zbW0 e
     simp at h1
     omega
    ·cases hadd
   rw [ha,Option.bind_some]
   by_cases c:l.length≤8
   ·simp only [cL,dF,show ¬ (8:Int) < (l.length:Int) by omega,cK,bV,cD]
    have ho:=zbI5 (l,true) (by simp only; omega)
    by_cases hd:dnN l
    ·rw [ho.1 hd,hp.2 ⟨l,rfl,c,hd⟩]
     rfl
    ·rw [ho.2 hd]
     have:(zal9 e []).isSome=false:=by
      rw [eA]; intro h
      obtain ⟨l',e',_,h3⟩:=hp.1 h
      cases e'
      exact hd h3
     rw [this]
     rfl
   ·simp only [cL,dF,show (8:Int) < (l.length:Int) by omega,cF,cE,Option.bind_some]
    have:(zal9 e []).isSome=false:=by
     rw [eA]; intro h
     obtain ⟨l',e',h3,_⟩:=hp.1 h
     cases e'
     exact c h3
    rw [this]
theorem zbW6 (e:aN):zq3 e=some (vE e):=zbj6 e
theorem zbE1 {t:List aB} (hl:t.length≤8) (h:∀ q ∈ t,zl4 q=true):zy8 t=some (zE5 t):=by
 rw [← zaA8 hl h]; rfl
theorem zcw6 (s:aL):zac6 s=zK0 s:=by
 funext g
 unfold zac6 zK0
 by_cases c:g < (s.bB.length:Int)
 ·by_cases c0:0≤g
  ·simp only [c,c0,cW,cF,cE,zo2,zbW6,zZ2,zar0,zaA6]
   generalize hn:s.bB.getD g.toNat bN.zero=n
   generalize hm:s.bB.getD ((IntKind.i64.wrap (g - 1)).toNat) bN.zero=m
   cases hP:zb2 n.aP
   ·simp
   ·cases hE:vE n.bS
    ·by_cases q1:n.gen < 0 <;> by_cases q2:1073741824 < n.gen <;> simp [q1,q2]
    ·by_cases q1:n.gen < 0
     ·simp [q1]
     ·by_cases q2:1073741824 < n.gen
      ·simp [q1,q2]
      ·by_cases q3:0 < g <;> simp [q1,q2,q3]
  ·simp only [c,c0,iQ,cF,cE,zdh5]
 ·simp only [c,cK,bV,cD]
def zby1 (l:List bN) (i:Nat) (n:bN):Bool:=zb2 n.aP&&vE n.bS&&decide (0≤n.gen)&&decide (n.gen≤1073741824)&&(decide (i=0)||decide (cmpP (l.getD (i - 1) bN.zero).aP n.aP < 0))
def zaT4 (l:List bN):Bool:=(List.range l.length).all fun i=>zby1 l i (l.getD i bN.zero)
def zbE2 (s:aL):List aJ:=zbj1 (zE5 s.aF++s.bB.map (·.aP))
def zZ3 (s:aL):Bool:=zar9 s.aF&&decide (s.bB.length≤8)&&zaT4 s.bB&&decide ((zbE2 s).length≤8)
theorem zbW7 (s:aL) (h8:s.bB.length≤8):zc0 (zK0 s) 0=some (if zaT4 s.bB=true then .inl () else .inr false):=by
 have key:=zM3 (body:=zK0 s) s.bB.length (fun i=>if zby1 s.bB i (s.bB.getD i bN.zero)=true then none else some (Sum.inr (α:=Unit) false)) (Sum.inl ()) (fun i hi=>by
  unfold zK0
  have c1:(i:Int) < (s.bB.length:Int):=by omega
  have c2:0≤(i:Int):=by omega
  simp only [c1,c2,cW,cF,cE,zo2,zZ2,zaA6,Int.toNat_natCast]
  unfold zby1
  have nd:∀ x:bN,x=x:=fun x=>rfl
  rcases hb (zb2 (s.bB.getD i bN.zero).aP) with hP|hP
  ·rcases hb (vE (s.bB.getD i bN.zero).bS) with hE|hE
   ·by_cases q1:(s.bB.getD i bN.zero).gen < 0
    ·simp [hP,hE,q1,show ¬ 0≤(s.bB.getD i bN.zero).gen by omega,-List.getD_eq_getElem?_getD]
    ·by_cases q2:1073741824 < (s.bB.getD i bN.zero).gen
     ·simp [hP,hE,q1,q2,show ¬ (s.bB.getD i bN.zero).gen≤1073741824 by omega,-List.getD_eq_getElem?_getD]
     ·have q1':0≤(s.bB.getD i bN.zero).gen:=by omega
      have q2':(s.bB.getD i bN.zero).gen≤1073741824:=by omega
      have w2:IntKind.i64.wrap ((i:Int)+1)=(i:Int)+1:=zd2 (by omega) (by omega)
      by_cases q3:i=0
      ·subst q3
       simp only [hP,hE,q1,q2,q1',q2',cE,Option.bind_some,cF,cK,cL,cY,gK,cN,eT,dF,fQ,Int.cast_ofNat_Int,Int.lt_irrefl,gN,eG,bV,iS,zo2,cD]
       rfl
      ·have q4:(0:Int) < (i:Int):=by omega
       have w:IntKind.i64.wrap ((i:Int) - 1)=((i - 1:Nat):Int):=zaD0 i (by omega) (by omega)
       rw [hP,bY rfl,Option.bind_some,gdp (by intro _; rw [w]; omega),w,w2]
       simp only [hE,q1,q2,q1',q2',q3,q4,cF,cK,cL,cY,gK,cN,eT,dF,Int.toNat_natCast,cE,cD]
       by_cases q5:cmpP (s.bB.getD (i - 1) bN.zero).aP (s.bB.getD i bN.zero).aP < 0
       ·have q6:¬ 0≤cmpP (s.bB.getD (i - 1) bN.zero).aP (s.bB.getD i bN.zero).aP:=by omega
        simp only [q5,q6,cF,cK,cE,bV,cD]
       ·have q6:0≤cmpP (s.bB.getD (i - 1) bN.zero).aP (s.bB.getD i bN.zero).aP:=by omega
        simp only [q5,q6,cF,cK,cE,bV,cD]
   ·simp [hP,hE,-List.getD_eq_getElem?_getD]
  ·simp [hP,-List.getD_eq_getElem?_getD])
  (by unfold zK0; simp)
 rw [key,zU6 (fun i=>zby1 s.bB i (s.bB.getD i bN.zero))]
 unfold zaT4
 rw [eN]
 split <;> rfl
theorem zbW8 (s:aL) (hp:zar9 s.aF=true) (h8:s.bB.length≤8):zI1 s=some (zbE2 s):=by
 obtain ⟨h1,h2,_⟩:=(zaD9 _).1 hp
 have hq:=zbx7 s.aF h2
 have hs:(zE5 s.aF).length≤200:=by
  have:=zbm4 (s.aF.flatMap zao1)
  unfold zE5; omega
 unfold zI1
 rw [zbE1 h1 h2,Option.bind_some,zaI0 s.bB bN.zero (·.aP) _ (by omega) (by omega) (fun i t hi ht=>by
  unfold zaq6
  have h3:0≤(i:Int)∧(i:Int) < (s.bB.length:Int):=by omega
  have h1:t.length+1≤4294967296:=by omega
  simp only [h1,h3.1,h3.2,cW,zo2,cF,cE,Int.toNat_natCast,zd0 i (show i < 4611686018427387904 by omega)]) (fun t=>by unfold zaq6; simp),Option.bind_some]
 unfold zaC8
 rw [zav4 _ (by simp; omega)]; rfl
theorem zaO9 (s:aL) (hp:zar9 s.aF=true) (h8:s.bB.length≤8):zx3 s=some (zbE2 s):=by
 obtain ⟨h1,h2,_⟩:=(zaD9 _).1 hp
 have hq:=zbx7 s.aF h2
 have hs:(zE5 s.aF).length≤200:=by
  have:=zbm4 (s.aF.flatMap zao1)
  unfold zE5; omega
 unfold zx3
 rw [zbV7 h1 h2,Option.bind_some,gdp (by omega),zaI0 s.bB bN.zero (·.aP) _ (by omega) (by omega) (fun i t hi ht=>by
  unfold zab8
  have h3:0≤(i:Int)∧(i:Int) < (s.bB.length:Int):=by omega
  have h1:t.length+1≤4294967296:=by omega
  simp only [h1,h3.1,h3.2,cW,zo2,cF,cE,Int.toNat_natCast,zd0 i (show i < 4611686018427387904 by omega)]) (fun t=>by unfold zab8; simp),Option.bind_some]
 unfold zan3
 rw [zav3 _ (by simp; omega)]; rfl
theorem zbj9 (s:aL):zK7 s=some (zZ3 s):=by
 unfold zK7 zZ3
 rw [zbj5,Option.bind_some]
 cases hp:zar9 s.aF with
 | false=>rfl
 | true =>
  by_cases h8:s.bB.length≤8
  ·simp only [cL,dF,show ¬ (8:Int) < (s.bB.length:Int) by omega,cK,bV,cD,h8,cF,cN]
   rw [zbW7 s h8,Option.bind_some]
   cases zaT4 s.bB with
   | false=>rfl
   | true =>
    simp only [cE,cN]
    unfold zaC9
    rw [zbW8 s hp h8,Option.bind_some]
    congr 1
    rw [dL]; simp; omega
  ·simp only [cL,dF,show (8:Int) < (s.bB.length:Int) by omega,cF,cE,h8,cK,gN,eG]
theorem zQ3 (s:aL):zx4 s=some (zZ3 s):=by
 unfold zx4 zZ3
 by_cases h8:s.bB.length≤8
 ·by_cases hq:s.aF.length≤8
  ·simp only [show ¬ (8:Int) < (s.bB.length:Int) by omega,show ¬ (8:Int) < (s.aF.length:Int) by omega,cK,eT,bV,cD,h8,cF,eV]
   rw [zbV5 s.aF hq (fun i hi=>by
    unfold zac8
    have h3:0≤(i:Int)∧(i:Int) < (s.aF.length:Int):=by omega
    simp only [h3.1,h3.2,cW,zo2,cF,cE,Int.toNat_natCast,zbT4,Option.bind_some,zd0 i (show i < 4611686018427387904 by omega)]
    by_cases e0:i=0
    ·subst e0
     rw [zh6 (by simp)]
     cases zl4 (s.aF.getD 0 aB.zero) <;> simp
    ·rw [zaD0 i (by omega) (by omega),zh6 (by intro _; omega)]
     simp only [Int.toNat_natCast,show (0:Int) < (i:Int) by omega,cF,cN,e0,iK]
     unfold ltN
     rcases hb (zl4 (s.aF.getD i aB.zero)) with b1|b1 <;> rcases hb (Op.bytesLess (s.aF.getD (i - 1) aB.zero).aA.name.toList (s.aF.getD i aB.zero).aA.name.toList) with b2|b2 <;> simp [b1,b2,-List.getD_eq_getElem?_getD]) (by unfold zac8; simp)]
   unfold zar9
   simp only [hq,cF,cN]
   cases ha:ascW s.aF none with
   | false=>rfl
   | true =>
    have hp:zar9 s.aF=true:=by unfold zar9; simp [hq,ha]
    simp only [cE,Option.bind_some,cN]
    unfold zac7
    rw [zcw6,zbW7 s h8,Option.bind_some]
    cases zaT4 s.bB with
    | false=>rfl
    | true =>
     simp only [cE,cN]
     unfold zan4
     rw [zaO9 s hp h8,Option.bind_some]
     congr 1
     rw [dL]; simp; omega
  ·have:zar9 s.aF=false:=by unfold zar9; simp [hq]
   simp only [show (8:Int) < (s.aF.length:Int) by omega,cF,fQ,cE,this,eG]
 ·simp only [show (8:Int) < (s.bB.length:Int) by omega,cF,iL,cE,h8,cK,gN,eG]
def zD7 (l:List Int):Prop:=∀ x ∈ l,0≤x∧x < 256
theorem zD7.drop {l:List Int} (h:zD7 l) (n:Nat):zD7 (l.drop n):=fun x hx=>h x (gD hx)
theorem zD7.getD {l:List Int} (h:zD7 l) (i:Nat):0≤l.getD i 0∧l.getD i 0 < 256:=by
 by_cases hi:i < l.length
 ·rw [bZ,cC hi]
  exact h _ (gL hi)
 ·rw [bZ,fU (by omega)]
  simp
theorem zbt7 {G X:Type} {b1 b2:G→Option (G⊕X)} (I:G→Prop) (h:∀ g,I g→b1 g=b2 g∧∀ g',b1 g=some (.inl g')→I g'):∀ n g,I g→iter b1 n g=iter b2 n g
 | 0,_,_=>rfl
 | n+1,g,hg=>by
  obtain ⟨h1,h2⟩:=h g hg
  simp only [iter]
  rw [← h1]
  cases hb:b1 g with
  | none=>rfl
  | some y =>
   cases y with
   | inl g'=>exact zbt7 I h n g' (h2 g' hb)
   | inr x=>rfl
theorem zcw7 {G X:Type} {b1 b2:G→Option (G⊕X)} (I:G→Prop) (h:∀ g,I g→b1 g=b2 g∧∀ g',b1 g=some (.inl g')→I g') {g:G} (hg:I g):zc0 b1 g=zc0 b2 g:=by
 apply Option.ext
 intro x
 constructor
 ·intro hx
  obtain ⟨n,hn⟩:=zT2.1 hx
  exact zT2.2 ⟨n,by rw [← zbt7 I h n g hg]; exact hn⟩
 ·intro hx
  obtain ⟨n,hn⟩:=zT2.1 hx
  exact zT2.2 ⟨n,by rw [zbt7 I h n g hg]; exact hn⟩
theorem zaX4 {G X H Y:Type} {b1:G→Option (G⊕X)} {b2:H→Option (H⊕Y)} (I:G→H→Prop) (μ:G→Nat) (Post:X→Y→Prop)
  (h:∀ g k,I g k→(∃ g' k',b1 g=some (.inl g')∧b2 k=some (.inl k')∧I g' k'∧μ g' < μ g)∨∃ x y,b1 g=some (.inr x)∧b2 k=some (.inr y)∧Post x y) :
  ∀ g k,I g k→∃ x y,zc0 b1 g=some x∧zc0 b2 k=some y∧Post x y:=by
 have key:∀ n g k,μ g=n→I g k→∃ x y,zc0 b1 g=some x∧zc0 b2 k=some y∧Post x y:=by
  intro n
  induction n using Nat.strongRecOn with
  | _ n ih =>
   intro g k hn hg
   rw [ze0,ze0 b2]
   rcases h g k hg with ⟨g',k',h1,h2,h3,h4⟩|⟨x,y,h1,h2,h3⟩
   ·rw [h1,h2]; exact ih (μ g') (hn ▸ h4) g' k' rfl h3
   ·rw [h1,h2]; exact ⟨x,y,rfl,rfl,h3⟩
 exact fun g k hg=>key _ g k rfl hg
theorem zcF3 (c:Int) (h0:0≤c) (h1:c < 256):(zA9 .and .u8 c 128=0) ↔ c < 128:=by
 have k:(List.range 256).all (fun n=>decide ((zA9 .and .u8 (n:Int) 128=0) ↔ (n:Int) < 128))=true:=by kernel_rfl
 obtain ⟨n,rfl⟩:=Int.eq_ofNat_of_zero_le h0
 have:=eO.1 k n (eR.2 (by omega))
 simpa using this
theorem zbK5 {a:List Int} (hb:zD7 a) (g:Int×Int) (h0:0≤g.2) (h1:g.2≤10):zx1 a g=zC3 a g:=by
 obtain ⟨v,i⟩:=g
 simp only at h0 h1
 unfold zx1 zC3
 simp only [cB]
 by_cases c1:i < 10
 ·rw [bY c1,bY c1]
  by_cases c2:(a.length:Int)≤i
  ·rw [bY c2,bY c2]
  ·have hi:0≤i∧i < (a.length:Int):=by omega
   rw [bW c2,bW c2,gdp hi,gdp hi]
   obtain ⟨hc0,hc1⟩:=hb.getD i.toNat
   have hw:IntKind.u64.wrap (IntKind.i64.wrap (7 * i))=IntKind.i64.wrap (7 * i):=by
    rw [zd2 (by omega) (by omega),IntKind.wrap_u64]; omega
   have hw0:0≤IntKind.i64.wrap (7 * i):=by rw [zd2 (by omega) (by omega)]; omega
   have ha:=zcF3 _ hc0 hc1
   rw [hw,gdp hw0,gdp hw0]
   generalize a.getD i.toNat 0=c at hc0 hc1 ha ⊢
   by_cases c3:i=9∧1 < c
   ·simp [c3.1,c3.2]
   ·have e3:(decide (i=9)&&decide (1 < c))=false:=by
     rw [eA]; intro h; simp at h; exact c3 h
    rw [e3]
    by_cases c4:c < 128
    ·have c5:=ha.2 c4
     simp only [c4,c5,cF,cL,bV,cD,cE,dF]
    ·have c5:¬ zA9 .and .u8 c 128=0:=fun e=>c4 (ha.1 e)
     have c6:¬ c=0:=by omega
     simp only [c4,c5,c6,cK,cY,eG,iT,bV,cD,cE]
 ·rw [bW c1,bW c1]
theorem zcg6 {a:List Int} {g g':Int×Int} (h0:0≤g.2) (h1:g.2≤10) (h:zx1 a g=some (.inl g')):g.2 < 10∧g.2 < a.length∧g'.2=g.2+1∧0≤g'.1∧g'.1 < 18446744073709551616:=by
 obtain ⟨v,i⟩:=g
 simp only at h0 h1
 unfold zx1 at h
 simp only [cB] at h
 split at h
 ·rename_i c1
  split at h
  ·cases h
  ·rename_i c2
   rw [gdp (by omega)] at h
   split at h
   ·cases h
   ·rw [gdp (by rw [zd2 (by omega) (by omega)]; omega)] at h
    split at h
    ·cases h
     refine ⟨c1,by omega,?_,?_⟩
     ·simp only; rw [zd2 (by omega) (by omega)]
     ·simp only [zA9]; rw [IntKind.wrap_u64]; omega
    ·split at h <;> cases h
 ·cases h
theorem zbm6 {a:List Int} (hb:zD7 a):zi6 a=zk9 a:=by
 unfold zi6 zk9
 rw [zcw7 (fun g=>0≤g.2∧g.2≤10) (fun g hg=>⟨zbK5 hb g hg.1 hg.2,fun g' h=>?_⟩) (by simp)]
 ·rfl
 ·obtain ⟨h1,_,h2,_⟩:=zcg6 hg.1 hg.2 h
  omega
structure UintOk (a:List Int) (r:Int×Int×Int):Prop where
 ok:r.2.2=0→1≤r.2.1∧r.2.1≤a.length∧r.2.1≤10
 no:r.2.2≠0→r.1=0∧r.2.1=0
 v0:0≤r.1
 v1:r.1 < 18446744073709551616
 n0:0≤r.2.1
 n1:r.2.1≤a.length
 e:r.2.2=0∨r.2.2=5∨r.2.2=6
theorem zbm7 {a:List Int} (hb:zD7 a):∃ r,zi6 a=some r∧UintOk a r:=by
 have hl:∃ x,zc0 (zx1 a) (0,0)=some x∧(match x with|.inl _=>True|.inr r=>UintOk a r):=by
  refine zw0 (fun g=>(0≤g.2∧g.2≤10)∧0≤g.1∧g.1 < 18446744073709551616) (fun g=>(10 - g.2).toNat) _ (fun g hg=>?_) (0,0) (by simp)
  obtain ⟨⟨h0,h1⟩,h2,h3⟩:=hg
  cases hx:zx1 a g with
  | none =>
   exfalso
   obtain ⟨v,i⟩:=g
   simp only at h0 h1
   unfold zx1 at hx
   simp only [cB] at hx
   split at hx
   ·split at hx
    ·cases hx
    ·rw [gdp (by omega)] at hx
     split at hx
     ·cases hx
     ·rw [gdp (by rw [zd2 (by omega) (by omega)]; omega)] at hx
      split at hx
      ·cases hx
      ·split at hx <;> cases hx
   ·cases hx
  | some y =>
   cases y with
   | inl g' =>
    obtain ⟨k1,k2,k3,k4,k5⟩:=zcg6 h0 h1 hx
    exact .inl ⟨g',rfl,⟨by omega,k4,k5⟩,by omega⟩
   | inr x =>
    refine .inr ⟨x,rfl,?_⟩
    obtain ⟨v,i⟩:=g
    simp only at h0 h1 h2 h3
    have bad:∀ e,e=5∨e=6→UintOk a (0,0,e):=fun e he=>⟨fun h=>by simp only at h; omega,fun _=>⟨rfl,rfl⟩,eH _,by simp,eH _,by simp,.inr he⟩
    unfold zx1 at hx
    simp only [cB] at hx
    split at hx
    ·split at hx
     ·cases hx; exact bad 5 (.inl rfl)
     ·rename_i c2
      rw [gdp (by omega)] at hx
      split at hx
      ·cases hx; exact bad 6 (.inr rfl)
      ·rw [gdp (by rw [zd2 (by omega) (by omega)]; omega)] at hx
       split at hx
       ·cases hx
       ·split at hx
        ·cases hx; exact bad 6 (.inr rfl)
        ·cases hx
         have hw:IntKind.i64.wrap (i+1)=i+1:=zd2 (by omega) (by omega)
         refine ⟨fun _=>?_,fun h=>absurd rfl h,?_,?_,?_,?_,.inl rfl⟩
         ·simp only [hw]; omega
         ·simp only [zA9]; rw [IntKind.wrap_u64]; omega
         ·simp only [zA9]; rw [IntKind.wrap_u64]; omega
         ·simp only [hw]; omega
         ·simp only [hw]; omega
    ·cases hx; trivial
 obtain ⟨x,h1,h2⟩:=hl
 unfold zi6
 rw [h1]
 cases x with
 | inl z=>exact ⟨(0,0,6),rfl,fun h=>by simp at h,fun _=>⟨rfl,rfl⟩,eH _,by simp,eH _,by simp,.inr (.inr rfl)⟩
 | inr r=>exact ⟨r,rfl,h2⟩
theorem zdu8 {a:List Int} (hb:zD7 a):zn4 a=zp6 a:=by
 unfold zn4 zp6
 rw [zbm6 hb]
structure TextOk (a:List Int) (r:ByteArray×Int×Int):Prop where
 n0:0≤r.2.1
 n1:r.2.1≤a.length
 no:r.2.2≠0→r.1=⟨#[]⟩
theorem zcT6 {a:List Int} (hb:zD7 a) (hl:a.length≤9223372036854775807):∃ r,zn4 a=some r∧TextOk a r:=by
 obtain ⟨⟨v,n,e⟩,h1,h2⟩:=zbm7 hb
 have k:=h2.ok; have v0:=h2.v0; have n0:=h2.n0; have n1:=h2.n1
 simp only at k v0 n0 n1
 unfold zn4
 rw [h1,Option.bind_some]
 simp only [dB,dD,cB]
 by_cases c1:e=0
 ·rw [bW (by simpa using c1)]
  by_cases c2:1024 < v
  ·rw [bY c2]; exact ⟨_,rfl,eH _,by simp,fun _=>rfl⟩
  ·rw [bW c2]
   have w1:IntKind.i64.wrap v=v:=zd2 (by omega) (by omega)
   have w2:IntKind.i64.wrap ((a.length:Int) - n)=a.length - n:=zd2 (by omega) (by omega)
   have w3:IntKind.i64.wrap (n+v)=n+v:=zd2 (by omega) (by omega)
   rw [w1,w2,w3]
   by_cases c3:(a.length:Int) - n < v
   ·rw [bY c3]; exact ⟨_,rfl,eH _,by simp,fun _=>rfl⟩
   ·rw [bW c3,gdp (by omega)]
    exact ⟨_,rfl,by simp only; omega,by simp only; omega,fun h=>absurd rfl h⟩
 ·rw [bY (by simpa using c1)]
  exact ⟨_,rfl,eH _,by simp,fun _=>rfl⟩
structure Sim (b:List Int) (d:aU) (r:aO):Prop where
 rb:r.b=b
 e:d.bC.err=r.e
 a0:0≤r.at_
 a1:r.at_≤b.length
 rest:r.e=0→d.bC.rest=b.drop r.at_.toNat
def Rd (b:List Int) {α:Type} (f:Option (α×aU)) (g:Option (α×aO)) (P:α→Prop):Prop:=∃ v d r,f=some (v,d)∧g=some (v,r)∧Sim b d r∧P v
structure Src (b:List Int):Prop where
 bytes:zD7 b
 len:b.length≤9223372036854775807
theorem zbM5 {b:List Int} {at_ n:Int} (h0:0≤at_) (h1:0≤n) (h2:at_≤b.length) (hl:b.length≤9223372036854775807) (h3:n≤(b.drop at_.toNat).length) :
  IntKind.i64.wrap (at_+n)=at_+n∧at_+n≤b.length∧(b.drop at_.toNat).drop n.toNat=b.drop (at_+n).toNat:=by
 have h4:(b.drop at_.toNat).length=b.length - at_.toNat:=dS
 refine ⟨zd2 (by omega) (by omega),by omega,?_⟩
 rw [eQ]; congr 1; omega
theorem zbW9 {b:List Int} (hb:Src b) {d:aU} {r:aO} (h:Sim b d r) (lim over:Int) (h0:0≤lim) (h1:lim < 4611686018427387904) (ho:over≠0) :
  Rd b (zb7 lim over d) (ze1 lim over r) (fun v=>0≤v∧v≤lim):=by
 obtain ⟨hbb,hbl⟩:=hb
 have h':=h
 obtain ⟨e1,e2,e3,e4,e5⟩:=h
 unfold zb7 ze1
 rw [e2]
 by_cases he:r.e=0
 ·have hr:=e5 he
  rw [bW (by simp [he]),bW (by simp [he]),e1,gdp (by omega),hr]
  obtain ⟨⟨v,n,e⟩,hu,ok⟩:=zbm7 (hbb.drop r.at_.toNat)
  rw [← zbm6 (hbb.drop r.at_.toNat),hu]
  have k1:=ok.v0; have k2:=ok.v1; have k3:=ok.n0; have k4:=ok.n1
  simp only at k1 k2 k3 k4
  obtain ⟨w1,w2,w3⟩:=zbM5 e3 k3 e4 hbl k4
  have hw:IntKind.u64.wrap lim=lim:=by rw [IntKind.wrap_u64]; omega
  simp only [Option.bind_some]
  by_cases c1:e=0
  ·subst c1
   by_cases c2:lim < v
   ·rw [bY (by simp [hw,c2]),bW (by simp),bY (by simp [hw,c2])]
    unfold zr4
    rw [bY (by simp [ho])]
    exact ⟨0,_,_,rfl,rfl,⟨rfl,rfl,by simp only [w1]; omega,by simp only [w1]; exact w2,fun hh=>absurd hh ho⟩,eH _,h0⟩
   ·rw [bW (by simp [hw,c2]),bW (by simp),bW (by simp [hw,c2])]
    unfold zr4
    have hvw:IntKind.i64.wrap v=v:=zd2 (by omega) (by omega)
    rw [bW (by simp),hr,gdp (by simp only; omega)]
    simp only [hvw]
    exact ⟨v,_,_,rfl,rfl,⟨rfl,e2,by simp only [w1]; omega,by simp only [w1]; exact w2,fun _=>by simp only [w1]; exact w3⟩,k1,by omega⟩
  ·rw [bW (by simp [c1]),bY (by simp [c1])]
   unfold zr4
   rw [bY (by simp [c1])]
   exact ⟨0,_,_,rfl,rfl,⟨rfl,rfl,e3,e4,fun hh=>absurd hh c1⟩,eH _,h0⟩
 ·rw [bY (by simp [he]),bY (by simp [he])]
  exact ⟨0,_,_,rfl,rfl,h',eH _,h0⟩
theorem Rd.bind {b:List Int} {α β:Type} {f:Option (α×aU)} {g:Option (α×aO)} {P:α→Prop} {Q:β→Prop} {F:α×aU→Option (β×aU)} {G:α×aO→Option (β×aO)}
  (h:Rd b f g P) (k:∀ v d r,Sim b d r→P v→Rd b (F (v,d)) (G (v,r)) Q):Rd b (f.bind F) (g.bind G) Q:=by
 obtain ⟨v,d,r,h1,h2,h3,h4⟩:=h
 rw [h1,h2]
 exact k v d r h3 h4
theorem Rd.ret {b:List Int} {α:Type} {P:α→Prop} {v:α} {d:aU} {r:aO} (h:Sim b d r) (hp:P v):Rd b (some (v,d)) (some (v,r)) P:=⟨v,d,r,rfl,rfl,h,hp⟩
theorem zaL6 {b:List Int} (hb:Src b) {d:aU} {r:aO} (h:Sim b d r) (lim:Int) (h0:0≤lim) (h1:lim < 4611686018427387904) :
  Rd b (zb9 lim d) (zd4 lim r) (fun v=>0≤v∧v≤lim):=by
 unfold zb9 zd4
 exact (zbW9 hb h lim 4 h0 h1 (by decide)).bind fun v d r hs hp=>.ret hs hp
theorem zad8 {b:List Int} (hb:Src b) {d:aU} {r:aO} (h:Sim b d r) :
  Rd b (za9 d) (zc5 r) (fun v=>0≤v∧v≤1073741824):=by
 unfold za9 zc5
 exact (zbW9 hb h 1073741824 16 (by decide) (by decide) (by decide)).bind fun v d r hs hp=>.ret hs hp
theorem zcw8 {b:List Int} (hb:Src b) {d:aU} {r:aO} (h:Sim b d r):Rd b (zc7 d) (zf5 r) (fun _=>True):=by
 obtain ⟨hbb,hbl⟩:=hb
 have h':=h
 obtain ⟨e1,e2,e3,e4,e5⟩:=h
 unfold zc7 zf5
 rw [e2]
 by_cases he:r.e=0
 ·have hr:=e5 he
  rw [bW (by simp [he]),bW (by simp [he]),e1,gdp (by omega),hr]
  obtain ⟨⟨v,n,e⟩,hu,ok⟩:=zcT6 (hbb.drop r.at_.toNat) (by rw [dS]; omega)
  rw [← zdu8 (hbb.drop r.at_.toNat),hu]
  have k3:=ok.n0; have k4:=ok.n1; have k5:=ok.no
  simp only at k3 k4 k5
  obtain ⟨w1,w2,w3⟩:=zbM5 e3 k3 e4 hbl k4
  simp only [Option.bind_some]
  by_cases c1:e=0
  ·subst c1
   rw [bW (by simp),bW (by simp),gdp (by omega)]
   exact ⟨v,_,_,rfl,rfl,⟨rfl,e2,by simp only [w1]; omega,by simp only [w1]; exact w2,fun _=>by simp only [w1]; exact w3⟩,trivial⟩
  ·rw [bY (by simp [c1]),bY (by simp [c1])]
   exact ⟨_,_,_,rfl,rfl,⟨rfl,rfl,e3,e4,fun hh=>absurd hh c1⟩,trivial⟩
 ·rw [bY (by simp [he]),bY (by simp [he])]
  exact ⟨_,_,_,rfl,rfl,h',trivial⟩
theorem zcn2 (p:aJ):zb2 p=zj6 p:=by
 unfold zb2 zj6 zF3
 rw [dL]
 simp only [bX,cB]
 omega
structure ProcOk (a:List Int) (r:aJ×Int×Int):Prop where
 n0:0≤r.2.1
 n1:r.2.1≤a.length
def zaX5 (x:Int):Int:=if 1073741824 < x then 1073741824 else x
theorem zcT7 {a:List Int} (hb:zD7 a) (hl:a.length≤9223372036854775807):∃ r,zo9 a=some r∧zp8 a=some r∧ProcOk a r:=by
 have turn:∀ (at_ i:Int) (x y:Arr Int 3),0≤at_→at_≤a.length→0≤i→i < 3 →
   (∃ e,zq0 a (at_,i,x)=some (.inr (.inr (aJ.zero,0,e)))∧zC4 a (at_,i,y)=some (.inr (.inr (aJ.zero,0,e)))) ∨
   ∃ v n:Int,0≤v∧v < 18446744073709551616∧0≤n∧at_+n≤a.length ∧
    zq0 a (at_,i,x)=some (.inl (at_+n,i+1,Arr.put x i.toNat (zaX5 v)))∧zC4 a (at_,i,y)=some (.inl (at_+n,i+1,Arr.put y i.toNat v)):=by
  intro at_ i x y h0 h1 h2 h3
  obtain ⟨⟨v,n,e⟩,hu,ok⟩:=zbm7 (hb.drop at_.toNat)
  have k1:=ok.v0; have k2:=ok.v1; have k3:=ok.n0; have k4:=ok.n1
  simp only at k1 k2 k3 k4
  obtain ⟨w1,w2,w3⟩:=zbM5 h0 k3 h1 hl k4
  have wi:IntKind.i64.wrap (i+1)=i+1:=zd2 (by omega) (by omega)
  have hg:0≤at_∧at_≤(a.length:Int)∧(a.length:Int)≤(a.length:Int):=by omega
  unfold zq0 zC4
  simp only [h3,cF,cE]
  rw [gdp hg,gdp hg,← zbm6 (hb.drop at_.toNat),hu]
  simp only [Option.bind_some]
  by_cases c1:e=0
  ·subst c1
   right
   refine ⟨v,n,k1,k2,k3,w2,?_,?_⟩
   ·rw [bW (by simp),gdp (by simp [h2]),w1,wi]
    have:IntKind.i64.wrap (if 1073741824 < v then 1073741824 else v)=zaX5 v:=by
     unfold zaX5
     split
     ·exact zd2 (by omega) (by omega)
     ·exact zd2 (by omega) (by omega)
    rw [this]
   ·rw [bW (by simp),gdp (by simp [h2]),w1,wi]
  ·left
   refine ⟨e,?_,?_⟩
   ·rw [bY (by simp [c1])]
   ·rw [bY (by simp [c1])]
 have bad:∀ e,ProcOk a (aJ.zero,0,e):=fun e=>⟨eH _,by simp⟩
 unfold zo9 zp8
 rw [ze0,ze0 (zC4 a)]
 rcases turn 0 0 (Arr.rep 3 0) (Arr.rep 3 0) (eH _) (by omega) (eH _) (by decide) with ⟨e,t1,t2⟩|⟨v0,n0,a1,a2,a3,a4,t1,t2⟩
 ·rw [t1,t2]; exact ⟨_,rfl,rfl,bad e⟩
 rw [t1,t2]
 simp only
 rw [ze0,ze0 (zC4 a)]
 rcases turn (0+n0) (0+1) (Arr.put (Arr.rep 3 0) (0:Int).toNat (zaX5 v0)) (Arr.put (Arr.rep 3 0) (0:Int).toNat v0) (by omega) a4 (by decide) (by decide) with ⟨e,t1,t2⟩|⟨v1,n1,b1,b2,b3,b4,t1,t2⟩
 ·rw [t1,t2]; exact ⟨_,rfl,rfl,bad e⟩
 rw [t1,t2]
 simp only
 rw [ze0,ze0 (zC4 a)]
 rcases turn (0+n0+n1) (0+1+1) (Arr.put (Arr.put (Arr.rep 3 0) (0:Int).toNat (zaX5 v0)) (0+1:Int).toNat (zaX5 v1)) (Arr.put (Arr.put (Arr.rep 3 0) (0:Int).toNat v0) (0+1:Int).toNat v1) (by omega) b4 (by decide) (by decide) with ⟨e,t1,t2⟩|⟨v2,n2,c1,c2,c3,c4,t1,t2⟩
 ·rw [t1,t2]; exact ⟨_,rfl,rfl,bad e⟩
 rw [t1,t2]
 simp only
 rw [ze0,ze0 (zC4 a)]
 have z1:∀ x,zq0 a (0+n0+n1+n2,0+1+1+1,x)=some (.inr (.inl (0+n0+n1+n2,x))):=fun x=>by unfold zq0; simp
 have z2:∀ x,zC4 a (0+n0+n1+n2,0+1+1+1,x)=some (.inr (.inl (0+n0+n1+n2,x))):=fun x=>by unfold zC4; simp
 rw [z1,z2]
 simp only [Option.bind_some]
 have g1:∀ (x y z:Int),Arr.get (Arr.put (Arr.put (Arr.put (Arr.rep 3 0) (0:Int).toNat x) (0+1:Int).toNat y) (0+1+1:Int).toNat z) 0 0=x∧Arr.get (Arr.put (Arr.put (Arr.put (Arr.rep 3 0) (0:Int).toNat x) (0+1:Int).toNat y) (0+1+1:Int).toNat z) 1 0=y ∧
   Arr.get (Arr.put (Arr.put (Arr.put (Arr.rep 3 0) (0:Int).toNat x) (0+1:Int).toNat y) (0+1+1:Int).toNat z) 2 0=z:=fun x y z=>⟨rfl,rfl,rfl⟩
 obtain ⟨q1,q2,q3⟩:=g1 (zaX5 v0) (zaX5 v1) (zaX5 v2)
 obtain ⟨p1,p2,p3⟩:=g1 v0 v1 v2
 unfold zaj5 zaI6
 simp only [q1,q2,q3,p1,p2,p3,zcn2]
 by_cases big:1073741824 < v0∨1073741824 < v1∨1073741824 < v2
 ·rw [bY (by unfold zj6 zaX5; rcases big with h|h|h <;> simp [h] <;> intros <;> omega)]
  refine ⟨_,rfl,?_,bad 2⟩
  rw [bY (by rcases big with h|h|h <;> simp [h])]
 ·have s0:zaX5 v0=v0:=bW (by omega)
  have s1:zaX5 v1=v1:=bW (by omega)
  have s2:zaX5 v2=v2:=bW (by omega)
  rw [s0,s1,s2,bW (show ¬ ((decide (1073741824 < v0)||decide (1073741824 < v1))||decide (1073741824 < v2))=true by simp; omega),zd2 (x:=v0) (by omega) (by omega),zd2 (x:=v1) (by omega) (by omega),zd2 (x:=v2) (by omega) (by omega)]
  by_cases hv:zj6 ⟨v0,v1,v2⟩=true
  ·rw [bW (by simp [hv])]
   exact ⟨_,rfl,rfl,by simp only; omega,by simp only; omega⟩
  ·rw [bY (by simpa using hv)]
   exact ⟨_,rfl,rfl,bad 2⟩
theorem zby2 {b:List Int} (hb:Src b) {d:aU} {r:aO} (h:Sim b d r):Rd b (zd1 d) (ze8 r) (fun _=>True):=by
 obtain ⟨hbb,hbl⟩:=hb
 have h':=h
 obtain ⟨e1,e2,e3,e4,e5⟩:=h
 unfold zd1 ze8
 rw [e2]
 by_cases he:r.e=0
 ·have hr:=e5 he
  rw [bW (by simp [he]),bW (by simp [he]),e1,gdp (by omega),hr]
  obtain ⟨⟨v,n,e⟩,hu,hu2,ok⟩:=zcT7 (hbb.drop r.at_.toNat) (by rw [dS]; omega)
  rw [hu,hu2]
  have k3:=ok.n0; have k4:=ok.n1
  simp only at k3 k4
  obtain ⟨w1,w2,w3⟩:=zbM5 e3 k3 e4 hbl k4
  simp only [Option.bind_some]
  by_cases c1:e=0
  ·subst c1
   rw [bW (by simp),bW (by simp),gdp (by omega)]
   exact ⟨v,_,_,rfl,rfl,⟨rfl,e2,by simp only [w1]; omega,by simp only [w1]; exact w2,fun _=>by simp only [w1]; exact w3⟩,trivial⟩
  ·rw [bY (by simp [c1]),bY (by simp [c1])]
   exact ⟨_,_,_,rfl,rfl,⟨rfl,rfl,e3,e4,fun hh=>absurd hh c1⟩,trivial⟩
 ·rw [bY (by simp [he]),bY (by simp [he])]
  exact ⟨_,_,_,rfl,rfl,h',trivial⟩
theorem zba8 {b:List Int} (hb:Src b) {d:aU} {r:aO} (h:Sim b d r):Rd b (zc3 d) (zf4 r) (fun _=>True):=by
 unfold zc3 zf4
 exact (zad8 hb h).bind fun v d r hs _=>(zad8 hb hs).bind fun v2 d r hs _=>.ret hs trivial
theorem zcT8 {b:List Int} (hb:Src b) {N:Int} (h0:0≤N) (h8:N≤8) (v:Int×aO) (hv:v.1=N) {d:aU} {r:aO} (hs:Sim b d r) (q:aB) (hq:q.aS=[]) (hi:q.aI=[]∧q.aV=[]) :
  ∃ d' r' q',zc0 zk6 (N,d,q)=some (d',q')∧zc0 (zy6 v) (0,r,q)=some (r',q')∧Sim b d' r'∧q'.aS.length≤8∧q'.aI=[]∧q'.aV=[]:=by
 have key:=zaX4 (b1:=zk6) (b2:=zy6 v)
  (fun g k=>g.2.2=k.2.2∧Sim b g.2.1 k.2.1∧g.1=N - k.1∧0≤k.1∧k.1≤N∧(g.2.2.aS.length:Int)=k.1∧g.2.2.aI=[]∧g.2.2.aV=[]) (fun g=>g.1.toNat)
  (fun x y=>x.2=y.2∧Sim b x.1 y.1∧x.2.aS.length≤8∧x.2.aI=[]∧x.2.aV=[]) (by
  rintro ⟨n,d,q⟩ ⟨i,r,q'⟩ ⟨c1,hs,c3,c4,c5,c6,c7⟩
  simp only at c1 hs c3 c4 c5 c6 c7
  subst c1
  have he:=hs.e
  by_cases c:i < N∧r.e=0
  ·left
   obtain ⟨ca,cb⟩:=c
   obtain ⟨p,d1,r1,h1,h2,s1,_⟩:=zby2 hb hs
   obtain ⟨a,d2,r2,h3,h4,s2,_⟩:=zba8 hb s1
   have w1:IntKind.i64.wrap (n - 1)=n - 1:=zd2 (by omega) (by omega)
   have w2:IntKind.i64.wrap (i+1)=i+1:=zd2 (by omega) (by omega)
   have hW:zk6 (n,d,q)=some (.inl (n - 1,d2,⟨⟨q.aA.name,q.aA.kind,q.aA.aT,q.aA.home⟩,q.aS++[⟨p,a⟩],q.aI,q.aV,q.gen⟩)):=by
    unfold zk6
    rw [bY (by simp [he,cb]; omega)]
    simp only [h1,h3,Option.bind_some,w1]
    rw [gdp (by omega)]
   have hR:zy6 v (i,r,q)=some (.inl (i+1,r2,⟨⟨q.aA.name,q.aA.kind,q.aA.aT,q.aA.home⟩,q.aS++[⟨p,a⟩],q.aI,q.aV,q.gen⟩)):=by
    unfold zy6
    rw [bY (by simp [hv,cb]; omega)]
    simp only [h2,h4,Option.bind_some,w2]
    rw [gdp (by omega)]
   exact ⟨_,_,hW,hR,⟨rfl,s2,by simp only; omega,by simp only; omega,by simp only; omega,by simp; omega,c7⟩,by simp only; omega⟩
  ·right
   refine ⟨(d,q),(r,q),?_,?_,rfl,hs,by simp only; omega,c7⟩
   ·unfold zk6
    rw [bW (by simp [he]; intro _; have:=mt (And.intro (show i < N by omega)) c; exact this)]
   ·unfold zy6
    rw [bW (by simp [hv]; intro h; exact fun e=>c ⟨h,e⟩)])
 obtain ⟨⟨d',q'⟩,⟨r',q''⟩,h1,h2,h3,h4,h5⟩:=key (N,d,q) (0,r,q) ⟨rfl,hs,by simp,eH _,h0,by simp only; rw [hq]; rfl,hi⟩
 simp only at h3 h4 h5
 subst h3
 exact ⟨d',r',q',h1,h2,h4,h5⟩
theorem zcn3 {b:List Int} (hb:Src b) {N:Int} (h0:0≤N) (h8:N≤8) (v:Int×aO) (hv:v.1=N) {d:aU} {r:aO} (hs:Sim b d r) (q:aB) (hq:q.aI=[]) (hi:q.aS.length≤8∧q.aV=[]) :
  ∃ d' r' q',zc0 zk5 (N,d,q)=some (d',q')∧zc0 (zy5 v) (0,r,q)=some (r',q')∧Sim b d' r'∧q'.aI.length≤8∧q'.aS.length≤8∧q'.aV=[]:=by
 have key:=zaX4 (b1:=zk5) (b2:=zy5 v)
  (fun g k=>g.2.2=k.2.2∧Sim b g.2.1 k.2.1∧g.1=N - k.1∧0≤k.1∧k.1≤N∧(g.2.2.aI.length:Int)=k.1∧g.2.2.aS.length≤8∧g.2.2.aV=[]) (fun g=>g.1.toNat)
  (fun x y=>x.2=y.2∧Sim b x.1 y.1∧x.2.aI.length≤8∧x.2.aS.length≤8∧x.2.aV=[]) (by
  rintro ⟨n,d,q⟩ ⟨i,r,q'⟩ ⟨c1,hs,c3,c4,c5,c6,c7⟩
  simp only at c1 hs c3 c4 c5 c6 c7
  subst c1
  have he:=hs.e
  by_cases c:i < N∧r.e=0
  ·left
   obtain ⟨ca,cb⟩:=c
   obtain ⟨p,d1,r1,h1,h2,s1,_⟩:=zby2 hb hs
   obtain ⟨a,d2,r2,h3,h4,s2,_⟩:=zba8 hb s1
   have w1:IntKind.i64.wrap (n - 1)=n - 1:=zd2 (by omega) (by omega)
   have w2:IntKind.i64.wrap (i+1)=i+1:=zd2 (by omega) (by omega)
   have hW:zk5 (n,d,q)=some (.inl (n - 1,d2,⟨⟨q.aA.name,q.aA.kind,q.aA.aT,q.aA.home⟩,q.aS,q.aI++[{ aX.zero with aP:=p,aK:=a }],q.aV,q.gen⟩)):=by
    unfold zk5
    rw [bY (by simp [he,cb]; omega)]
    simp only [h1,h3,Option.bind_some,w1]
    rw [gdp (by omega)]
   have hR:zy5 v (i,r,q)=some (.inl (i+1,r2,⟨⟨q.aA.name,q.aA.kind,q.aA.aT,q.aA.home⟩,q.aS,q.aI++[{ aX.zero with aP:=p,aK:=a }],q.aV,q.gen⟩)):=by
    unfold zy5
    rw [bY (by simp [hv,cb]; omega)]
    simp only [h2,h4,Option.bind_some,w2]
    rw [gdp (by omega)]
   exact ⟨_,_,hW,hR,⟨rfl,s2,by simp only; omega,by simp only; omega,by simp only; omega,by simp; omega,c7⟩,by simp only; omega⟩
  ·right
   refine ⟨(d,q),(r,q),?_,?_,rfl,hs,by simp only; omega,c7⟩
   ·unfold zk5
    rw [bW (by simp [he]; intro _; have:=mt (And.intro (show i < N by omega)) c; exact this)]
   ·unfold zy5
    rw [bW (by simp [hv]; intro h; exact fun e=>c ⟨h,e⟩)])
 obtain ⟨⟨d',q'⟩,⟨r',q''⟩,h1,h2,h3,h4,h5⟩:=key (N,d,q) (0,r,q) ⟨rfl,hs,by simp,eH _,h0,by simp only; rw [hq]; rfl,hi⟩
 simp only at h3 h4 h5
 subst h3
 exact ⟨d',r',q',h1,h2,h4,h5⟩
theorem zcT9 {b:List Int} (hb:Src b) {N:Int} (h0:0≤N) (h8:N≤8) (v:Int×aO) (hv:v.1=N) {d:aU} {r:aO} (hs:Sim b d r) (q:aB) (hq:q.aV=[]) (hi:q.aS.length≤8∧q.aI.length≤8) :
  ∃ d' r' q',zc0 zk4 (N,d,q)=some (d',q')∧zc0 (zy4 v) (0,r,q)=some (r',q')∧Sim b d' r'∧q'.aV.length≤8∧q'.aS.length≤8∧q'.aI.length≤8:=by
 have key:=zaX4 (b1:=zk4) (b2:=zy4 v)
  (fun g k=>g.2.2=k.2.2∧Sim b g.2.1 k.2.1∧g.1=N - k.1∧0≤k.1∧k.1≤N∧(g.2.2.aV.length:Int)=k.1∧g.2.2.aS.length≤8∧g.2.2.aI.length≤8) (fun g=>g.1.toNat)
  (fun x y=>x.2=y.2∧Sim b x.1 y.1∧x.2.aV.length≤8∧x.2.aS.length≤8∧x.2.aI.length≤8) (by
  rintro ⟨n,d,q⟩ ⟨i,r,q'⟩ ⟨c1,hs,c3,c4,c5,c6,c7⟩
  simp only at c1 hs c3 c4 c5 c6 c7
  subst c1
  have he:=hs.e
  by_cases c:i < N∧r.e=0
  ·left
   obtain ⟨ca,cb⟩:=c
   obtain ⟨p,d1,r1,h1,h2,s1,_⟩:=zby2 hb hs
   obtain ⟨a,d2,r2,h3,h4,s2,_⟩:=zba8 hb s1
   obtain ⟨u,d3,r3,h5,h6,s3,_⟩:=zad8 hb s2
   obtain ⟨x,d4,r4,h7,h8,s4,_⟩:=zad8 hb s3
   have w1:IntKind.i64.wrap (n - 1)=n - 1:=zd2 (by omega) (by omega)
   have w2:IntKind.i64.wrap (i+1)=i+1:=zd2 (by omega) (by omega)
   have hW:zk4 (n,d,q)=some (.inl (n - 1,d4,⟨⟨q.aA.name,q.aA.kind,q.aA.aT,q.aA.home⟩,q.aS,q.aI,q.aV++[{ { { { aX.zero with aP:=p } with aK:=a } with bH:=u } with bR:=x }],q.gen⟩)):=by
    unfold zk4
    rw [bY (by simp [he,cb]; omega)]
    simp only [h1,h3,h5,h7,Option.bind_some,w1]
    rw [gdp (by omega)]
   have hR:zy4 v (i,r,q)=some (.inl (i+1,r4,⟨⟨q.aA.name,q.aA.kind,q.aA.aT,q.aA.home⟩,q.aS,q.aI,q.aV++[{ { { { aX.zero with aP:=p } with aK:=a } with bH:=u } with bR:=x }],q.gen⟩)):=by
    unfold zy4
    rw [bY (by simp [hv,cb]; omega)]
    simp only [h2,h4,h6,h8,Option.bind_some,w2]
    rw [gdp (by omega)]
   exact ⟨_,_,hW,hR,⟨rfl,s4,by simp only; omega,by simp only; omega,by simp only; omega,by simp; omega,c7⟩,by simp only; omega⟩
  ·right
   refine ⟨(d,q),(r,q),?_,?_,rfl,hs,by simp only; omega,c7⟩
   ·unfold zk4
    rw [bW (by simp [he]; intro _; have:=mt (And.intro (show i < N by omega)) c; exact this)]
   ·unfold zy4
    rw [bW (by simp [hv]; intro h; exact fun e=>c ⟨h,e⟩)])
 obtain ⟨⟨d',q'⟩,⟨r',q''⟩,h1,h2,h3,h4,h5⟩:=key (N,d,q) (0,r,q) ⟨rfl,hs,by simp,eH _,h0,by simp only; rw [hq]; rfl,hi⟩
 simp only at h3 h4 h5
 subst h3
 exact ⟨d',r',q',h1,h2,h4,h5⟩
def zbX0 (q:aB):Prop:=q.aS.length≤8∧q.aI.length≤8∧q.aV.length≤8
theorem zcU0 {b:List Int} (hb:Src b) {d:aU} {r:aO} (h:Sim b d r):Rd b (ze2 d) (zn6 r) zbX0:=by
 unfold ze2 zn6
 refine (zcw8 hb h).bind fun v1 d r h _=>(zad8 hb h).bind fun v2 d r h _=>(zad8 hb h).bind fun v3 d r h _=>(zad8 hb h).bind fun v4 d r h _=>(zad8 hb h).bind fun v5 d r h _ =>
  (zaL6 hb h 8 (by decide) (by decide)).bind fun v6 d r h ⟨k1,k2⟩=>?_
 obtain ⟨d,r,q,l1,l2,h,l3,l4⟩:=zcT8 hb k1 k2 (v6,r) rfl h ⟨⟨v1,v2,v3,v4⟩,[],[],[],v5⟩ rfl ⟨rfl,rfl⟩
 simp only [l1,l2,Option.bind_some]
 unfold zw9 zN9
 refine (zaL6 hb h 8 (by decide) (by decide)).bind fun v7 d r h ⟨k1,k2⟩=>?_
 obtain ⟨d,r,q,l1,l2,h,l5,l6⟩:=zcn3 hb k1 k2 (v7,r) rfl h q l4.1 ⟨l3,l4.2⟩
 simp only [l1,l2,Option.bind_some]
 unfold zw8 zN8
 refine (zaL6 hb h 8 (by decide) (by decide)).bind fun v8 d r h ⟨k1,k2⟩=>?_
 obtain ⟨d,r,q,l1,l2,h,l7,l8⟩:=zcT9 hb k1 k2 (v8,r) rfl h q l6.2 ⟨l6.1,l5⟩
 simp only [l1,l2,Option.bind_some]
 unfold zG1 zZ7
 exact .ret h ⟨l8.1,l8.2,l7⟩
theorem zcF4 {d:aU} (h:d.bC.err≠0):za9 d=some (0,d):=by
 unfold za9 zb7
 rw [bY (by simpa using h)]
 rfl
theorem zcU1 {r:aO} (h:r.e≠0):zc5 r=some (0,r):=by
 unfold zc5 ze1
 rw [bY (by simpa using h)]
 rfl
theorem zdk1 {b:List Int} (hb:Src b) {aW:Int→aU→Option (aN×aU)} {aR:Int→aO→Option (aN×aO)} (dp:Int)
  (ha:∀ d r,Sim b d r→Rd b (aW (IntKind.i64.wrap (dp+1)) d) (aR (IntKind.i64.wrap (dp+1)) r) (fun _=>True)) {N:Int} (h0:0≤N) (h8:N≤24) (v:Int×aO) (hv:v.1=N) {d:aU} {r:aO} (hs:Sim b d r) (e:aN) (hk:e.bE=[]) :
  ∃ d' r' e',zc0 (zl3 aW dp) (N,d,e)=some (d',e')∧zc0 (zz7 aR dp v) (0,r,e)=some (r',e')∧Sim b d' r':=by
 have key:=zaX4 (b1:=zl3 aW dp) (b2:=zz7 aR dp v)
  (fun g k=>g.2.2=k.2.2∧Sim b g.2.1 k.2.1∧g.1=N - k.1∧0≤k.1∧k.1≤N∧(g.2.2.bE.length:Int)=k.1) (fun g=>g.1.toNat)
  (fun x y=>x.2=y.2∧Sim b x.1 y.1) (by
  rintro ⟨n,d,e⟩ ⟨i,r,e'⟩ ⟨c1,hs,c3,c4,c5,c6⟩
  simp only at c1 hs c3 c4 c5 c6
  subst c1
  have he:=hs.e
  by_cases c:i < N∧r.e=0
  ·left
   obtain ⟨ca,cb⟩:=c
   obtain ⟨k,d1,r1,h1,h2,s1,_⟩:=ha d r hs
   have w1:IntKind.i64.wrap (n - 1)=n - 1:=zd2 (by omega) (by omega)
   have w2:IntKind.i64.wrap (i+1)=i+1:=zd2 (by omega) (by omega)
   have hW:zl3 aW dp (n,d,e)=some (.inl (n - 1,d1,⟨e.k,⟨e.bF.name,⟨e.bF.aK.mode,e.bF.aK.aT⟩⟩,e.bE++[k]⟩)):=by
    unfold zl3
    rw [bY (by simp [he,cb]; omega)]
    simp only [h1,Option.bind_some,w1]
    rw [gdp (by omega)]
   have hR:zz7 aR dp v (i,r,e)=some (.inl (i+1,r1,⟨e.k,⟨e.bF.name,⟨e.bF.aK.mode,e.bF.aK.aT⟩⟩,e.bE++[k]⟩)):=by
    unfold zz7
    rw [bY (by simp [hv,cb]; omega)]
    simp only [h2,Option.bind_some,w2]
    rw [gdp (by omega)]
   exact ⟨_,_,hW,hR,⟨rfl,s1,by simp only; omega,by simp only; omega,by simp only; omega,by simp; omega⟩,by simp only; omega⟩
  ·right
   refine ⟨(d,e),(r,e),?_,?_,rfl,hs⟩
   ·unfold zl3
    rw [bW (by simp [he]; intro _; have:=mt (And.intro (show i < N by omega)) c; exact this)]
   ·unfold zz7
    rw [bW (by simp [hv]; intro h; exact fun e=>c ⟨h,e⟩)])
 obtain ⟨⟨d',e'⟩,⟨r',e''⟩,h1,h2,h3,h4⟩:=key (N,d,e) (0,r,e) ⟨rfl,hs,by simp,eH _,h0,by simp only; rw [hk]; rfl⟩
 simp only at h3 h4
 subst h3
 exact ⟨d',r',e',h1,h2,h4⟩
theorem zcw9 {b:List Int} (hb:Src b):∀ (n:Nat) (dp:Int) (d:aU) (r:aO),Sim b d r→1≤dp→dp≤6→7≤dp+n→Rd b (zl6 n dp d) (zC0 n dp r) (fun _=>True)
 | 0,dp,d,r,_,_,h2,h3=>by omega
 | n+1,dp,d,r,hs,h1,h2,h3=>by
  show Rd b (zt2 _ dp d) (zJ9 _ dp r) _
  have k1:∀ d r,Sim b d r→(r.e=0→dp≤4)→Rd b (zs2 (zl6 n) dp d) (zD0 (zC0 n) dp r) (fun _=>True):=by
   intro d r hs hd
   unfold zs2 zD0
   by_cases he:r.e=0
   ·refine (zad8 hb hs).bind fun v d r hs _=>?_
    have he1:=hs.e
    simp only [he1]
    by_cases c1:r.e=0
    ·simp only [c1,cF,cL,bV,cD]
     by_cases c2:v=0
     ·subst c2
      simp only [cF,cE]
      exact (zcw8 hb hs).bind fun v2 d r hs _=>(zba8 hb hs).bind fun v3 d r hs _=>.ret hs trivial
     ·simp only [c2,cK,bV,cD]
      refine (zaL6 hb hs 24 (by decide) (by decide)).bind fun v4 d r hs ⟨m1,m2⟩=>?_
      have w:IntKind.i64.wrap (dp+1)=dp+1:=zd2 (by omega) (by omega)
      have:=hd he
      obtain ⟨d,r,e,l1,l2,hs⟩:=zdk1 hb (aW:=zl6 n) (aR:=zC0 n) dp (fun d r hs=>by rw [w]; exact zcw9 hb n (dp+1) d r hs (by omega) (by omega) (by omega)) m1 m2 (v4,r) rfl hs
       ⟨v,⟨aN.zero.bF.name,⟨aN.zero.bF.aK.mode,aN.zero.bF.aK.aT⟩⟩,[]⟩ rfl
      simp only [l1,l2,Option.bind_some]
      unfold zx9 zQ9
      exact .ret hs trivial
    ·simp only [c1,cK,cY,cE]
     exact .ret hs trivial
   ·rw [zcF4 (by rw [hs.e]; exact he),zcU1 he]
    simp only [Option.bind_some,hs.e,he,cK,cY,cE]
    exact .ret hs trivial
  unfold zt2 zJ9
  rw [hs.e]
  by_cases c:r.e=0∧4 < dp
  ·rw [bY (by simp [c.1,c.2]),bY (by simp [c.1,c.2])]
   exact k1 _ _ ⟨hs.rb,rfl,hs.a0,hs.a1,fun h=>by simp at h⟩ (fun h=>by simp at h)
  ·have c':¬ (decide (r.e=0)&&decide (4 < dp))=true:=by simpa using c
   rw [bW c',bW c']
   exact k1 d r hs fun h=>by have:=mt (And.intro h) c; omega
theorem zcU2 {b:List Int} (hb:Src b) {d:aU} {r:aO} (hs:Sim b d r):Rd b (zm6 1 d) (zu0 1 r) (fun _=>True):=by
 unfold zm6 zu0
 exact zcw9 hb _ 1 d r hs (by decide) (by decide) (by decide)
def zdC2 (s:aL):Prop:=s.aF.length≤8∧s.bB.length≤8∧∀ q ∈ s.aF,zbX0 q
theorem zcF5 {b:List Int} (hb:Src b) {N:Int} (h0:0≤N) (h8:N≤8) (v:Int×aO) (hv:v.1=N) {d:aU} {r:aO} (hs:Sim b d r) :
  ∃ d' r' s',zc0 zs5 (N,d,⟨[],[]⟩)=some (d',s')∧zc0 (zL8 v) (0,r,⟨[],[]⟩)=some (r',s')∧Sim b d' r'∧s'.bB=[]∧s'.aF.length≤8∧∀ q ∈ s'.aF,zbX0 q:=by
 have key:=zaX4 (b1:=zs5) (b2:=zL8 v)
  (fun g k=>g.2.2=k.2.2∧Sim b g.2.1 k.2.1∧g.1=N - k.1∧0≤k.1∧k.1≤N∧(g.2.2.aF.length:Int)=k.1∧g.2.2.bB=[]∧∀ q ∈ g.2.2.aF,zbX0 q) (fun g=>g.1.toNat)
  (fun x y=>x.2=y.2∧Sim b x.1 y.1∧x.2.bB=[]∧x.2.aF.length≤8∧∀ q ∈ x.2.aF,zbX0 q) (by
  rintro ⟨n,d,s⟩ ⟨i,r,s'⟩ ⟨c1,hs,c3,c4,c5,c6,c7,c8⟩
  simp only at c1 hs c3 c4 c5 c6 c7 c8
  subst c1
  have he:=hs.e
  by_cases c:i < N∧r.e=0
  ·left
   obtain ⟨ca,cb⟩:=c
   obtain ⟨q,d1,r1,h1,h2,s1,hq⟩:=zcU0 hb hs
   have w1:IntKind.i64.wrap (n - 1)=n - 1:=zd2 (by omega) (by omega)
   have w2:IntKind.i64.wrap (i+1)=i+1:=zd2 (by omega) (by omega)
   have hW:zs5 (n,d,s)=some (.inl (n - 1,d1,⟨s.aF++[q],s.bB⟩)):=by
    unfold zs5
    rw [bY (by simp [he,cb]; omega)]
    simp only [h1,Option.bind_some,w1]
    rw [gdp (by omega)]
   have hR:zL8 v (i,r,s)=some (.inl (i+1,r1,⟨s.aF++[q],s.bB⟩)):=by
    unfold zL8
    rw [bY (by simp [hv,cb]; omega)]
    simp only [h2,Option.bind_some,w2]
    rw [gdp (by omega)]
   refine ⟨_,_,hW,hR,⟨rfl,s1,by simp only; omega,by simp only; omega,by simp only; omega,by simp; omega,c7,fun x hx=>?_⟩,by simp only; omega⟩
   rcases cU.1 hx with hx|hx
   ·exact c8 x hx
   ·rw [dQ.1 hx]; exact hq
  ·right
   refine ⟨(d,s),(r,s),?_,?_,rfl,hs,c7,by simp only; omega,c8⟩
   ·unfold zs5
    rw [bW (by simp [he]; intro _; have:=mt (And.intro (show i < N by omega)) c; exact this)]
   ·unfold zL8
    rw [bW (by simp [hv]; intro h; exact fun e=>c ⟨h,e⟩)])
 obtain ⟨⟨d',s'⟩,⟨r',s''⟩,h1,h2,h3,h4,h5⟩:=key (N,d,⟨[],[]⟩) (0,r,⟨[],[]⟩) ⟨rfl,hs,by simp,eH _,h0,rfl,rfl,fun q hq=>by cases hq⟩
 simp only at h3 h4 h5
 subst h3
 exact ⟨d',r',s',h1,h2,h4,h5⟩
theorem zcU3 {b:List Int} (hb:Src b) {N:Int} (h0:0≤N) (h8:N≤8) (v:Int×aO) (hv:v.1=N) {d:aU} {r:aO} (hs:Sim b d r) (s:aL) (hn:s.bB=[]) :
  ∃ d' r' l,zc0 zs4 (N,d,s)=some (d',⟨s.aF,l⟩)∧zc0 (zL7 v) (0,r,s)=some (r',⟨s.aF,l⟩)∧Sim b d' r'∧l.length≤8:=by
 have key:=zaX4 (b1:=zs4) (b2:=zL7 v)
  (fun g k=>g.2.2=k.2.2∧Sim b g.2.1 k.2.1∧g.1=N - k.1∧0≤k.1∧k.1≤N∧(g.2.2.bB.length:Int)=k.1∧g.2.2.aF=s.aF) (fun g=>g.1.toNat)
  (fun x y=>x.2=y.2∧Sim b x.1 y.1∧x.2.aF=s.aF∧x.2.bB.length≤8) (by
  rintro ⟨n,d,s⟩ ⟨i,r,s'⟩ ⟨c1,hs,c3,c4,c5,c6,c7⟩
  simp only at c1 hs c3 c4 c5 c6 c7
  subst c1
  have he:=hs.e
  by_cases c:i < N∧r.e=0
  ·left
   obtain ⟨ca,cb⟩:=c
   obtain ⟨p,d1,r1,h1,h2,s1,_⟩:=zby2 hb hs
   obtain ⟨g,d2,r2,h3,h4,s2,_⟩:=zad8 hb s1
   obtain ⟨e,d3,r3,h5,h6,s3,_⟩:=zcU2 hb s2
   have w1:IntKind.i64.wrap (n - 1)=n - 1:=zd2 (by omega) (by omega)
   have w2:IntKind.i64.wrap (i+1)=i+1:=zd2 (by omega) (by omega)
   have hW:zs4 (n,d,s)=some (.inl (n - 1,d3,⟨s.aF,s.bB++[{ { { bN.zero with aP:=p } with gen:=g } with bS:=e }]⟩)):=by
    unfold zs4
    rw [bY (by simp [he,cb]; omega)]
    simp only [h1,h3,h5,Option.bind_some,w1]
    rw [gdp (by omega)]
   have hR:zL7 v (i,r,s)=some (.inl (i+1,r3,⟨s.aF,s.bB++[{ { { bN.zero with aP:=p } with gen:=g } with bS:=e }]⟩)):=by
    unfold zL7
    rw [bY (by simp [hv,cb]; omega)]
    simp only [h2,h4,h6,Option.bind_some,w2]
    rw [gdp (by omega)]
   exact ⟨_,_,hW,hR,⟨rfl,s3,by simp only; omega,by simp only; omega,by simp only; omega,by simp; omega,c7⟩,by simp only; omega⟩
  ·right
   refine ⟨(d,s),(r,s),?_,?_,rfl,hs,c7,by simp only; omega⟩
   ·unfold zs4
    rw [bW (by simp [he]; intro _; have:=mt (And.intro (show i < N by omega)) c; exact this)]
   ·unfold zL7
    rw [bW (by simp [hv]; intro h; exact fun e=>c ⟨h,e⟩)])
 obtain ⟨⟨d',s'⟩,⟨r',s''⟩,h1,h2,h3,h4,h5,h6⟩:=key (N,d,s) (0,r,s) ⟨rfl,hs,by simp,eH _,h0,by simp only; rw [hn]; rfl,rfl⟩
 simp only at h3 h4 h5 h6
 subst h3
 obtain ⟨sq,sn⟩:=s'
 simp only at h5
 subst h5
 exact ⟨d',r',sn,h1,h2,h4,h6⟩
theorem zcx0 {b:List Int} (hb:Src b):(∃ e,zq7 b=some (aL.zero,e)∧zC8 b=some (aL.zero,e)) ∨
  ∃ s,zdC2 s∧(zq7 b=(zx4 s).bind fun v=>if (!v)=true then some (aL.zero,2) else some (s,0)) ∧
   (zC8 b=(zK7 s).bind fun v=>if (!v)=true then some (aL.zero,2) else some (s,0)):=by
 have h0:Sim b ⟨{ bT.zero with rest:=b }⟩ { aO.zero with b:=b }:=⟨rfl,rfl,eH _,by show (0:Int)≤_; omega,fun _=>rfl⟩
 unfold zq7 zC8
 obtain ⟨n1,d,r,h1,h2,hs,k1,k2⟩:=zaL6 hb h0 8 (by decide) (by decide)
 rw [h1,h2]
 simp only [Option.bind_some]
 obtain ⟨d,r,s,l1,l2,hs,l3,l4,l5⟩:=zcF5 hb k1 k2 (n1,r) rfl hs
 rw [l1,l2]
 simp only [Option.bind_some]
 unfold zH8 zac5
 obtain ⟨n2,d,r,h1,h2,hs,k1,k2⟩:=zaL6 hb hs 8 (by decide) (by decide)
 rw [h1,h2]
 simp only [Option.bind_some]
 obtain ⟨d,r,l,l1,l2,hs,l6⟩:=zcU3 hb k1 k2 (n2,r) rfl hs s l3
 rw [l1,l2]
 simp only [Option.bind_some]
 unfold zO6 zaA2
 simp only [hs.e]
 by_cases c:r.e=0
 ·have hr:=hs.rest c
  have h1:=hs.a0
  have h2:=hs.a1
  have hl:(d.bC.rest.length:Int)=b.length - r.at_:=by rw [hr,dS]; omega
  simp only [c,cF,cL,bV,cD,hl]
  by_cases c2:r.at_ < b.length
  ·left
   exact ⟨6,by rw [bY (by simp; omega)],by rw [bY (by simpa using c2)]⟩
  ·right
   refine ⟨⟨s.aF,l⟩,⟨l4,l6,l5⟩,?_,?_⟩
   ·rw [bW (by simp; omega)]
   ·rw [bW (by simpa using c2)]
 ·left
  exact ⟨r.e,by simp [c],by simp [c]⟩
theorem zX4 (n:Int) (h0:0≤n) (h1:n < 2 ^ 64):IntKind.u64.wrap n=n:=by rw [IntKind.wrap_u64]; omega
theorem zcF6 {x:Int} (h0:0≤x) (h1:x < 18446744073709551616):zA9 .and .u64 x 127=x % 128:=bits_mask .u64 64 (by decide) zX4 7 (by decide) x h0 (by omega)
theorem zbE3 {x:Int} (h0:0≤x) (h1:x < 256):zA9 .and .u8 x 127=x % 128:=bits_mask .u8 8 (by decide) wraps_u8 7 (by decide) x h0 (by omega)
theorem zcx1 (k:IntKind) (x y:Int):zA9 .or k x y=zA9 .or k y x:=by simp only [zA9,BitVec.or_comm]
theorem zdk2 {y:Int} (h0:0≤y) (h1:y < 128):zA9 .or .u8 y 128=y+128:=by
 rw [zcx1]
 have:zA9 .or .u8 128 y=128+y:=bits_join .u8 8 (by decide) wraps_u8 7 128 y (by decide) (by decide) (by decide) h0 (by omega) (by omega)
 rw [this]; omega
theorem zcn4 (s:Nat) (hs:s≤28) {v c:Int} (hv0:0≤v) (hv:v < 2 ^ s) (hc0:0≤c) (hc:c < 128):zA9 .or .u64 v (IntKind.u64.wrap (c * 2 ^ s))=v+c * 2 ^ s:=by
 have hp:(2:Int) ^ s≤2 ^ 28:=by exact_mod_cast Nat.pow_le_pow_right (by decide) hs
 have hq:(0:Int) < 2 ^ s:=by exact_mod_cast Nat.two_pow_pos s
 have hm:c * 2 ^ s≤127 * 2 ^ 28:=Int.mul_le_mul (by omega) hp (by omega) (by decide)
 have hm0:0≤c * 2 ^ s:=Int.mul_nonneg hc0 (by omega)
 rw [zX4 _ hm0 (by omega),zcx1]
 have:zA9 .or .u64 (c * 2 ^ s) v=c * 2 ^ s+v:=bits_join .u64 64 (by decide) zX4 s _ v hm0 (Int.mul_emod_left _ _) (by omega) hv0 hv (by omega)
 rw [this]; omega
def encU (n:Nat):List Int:=if n < 128 then [(n:Int)] else ((n % 128+128:Nat):Int) :: encU (n / 128)
termination_by n
decreasing_by omega
theorem zaK8 {n:Nat} (h:n < 128):encU n=[(n:Int)]:=by rw [encU,bY h]
theorem zba9 {n:Nat} (h:¬ n < 128):encU n=((n % 128+128:Nat):Int) :: encU (n / 128):=by rw [encU,bW h]
theorem zaX6:∀ (k n:Nat),n < 128 ^ (k+1)→1≤(encU n).length∧(encU n).length≤k+1
 | 0,n,h=>by rw [zaK8 (by omega)]; simp
 | k+1,n,h=>by
  by_cases c:n < 128
  ·rw [zaK8 c]; simp
  ·rw [zba9 c]
   have:=zaX6 k (n / 128) (by rw [Nat.pow_succ] at h; omega)
   simp only [List.length_cons]; omega
theorem zbt8:∀ (n:Nat),zD7 (encU n):=by
 intro n
 induction n using Nat.strongRecOn with
 | _ n ih =>
  by_cases c:n < 128
  ·rw [zaK8 c]; intro x hx; rw [dQ] at hx; omega
  ·rw [zba9 c]
   intro x hx
   rcases cJ.1 hx with rfl|hx
   ·omega
   ·exact ih (n / 128) (by omega) x hx
theorem zbk0:∀ (k n:Nat) (l:List Int),n < 128 ^ (k+1)→k≤8→l.length+k≤4294967290→∃ y l',zc0 zt4 ((n:Int),l)=some (y,l')∧l'++[IntKind.u8.wrap y]=l++encU n∧l'.length≤l.length+k
 | 0,n,l,h,hk,hl=>by
  refine ⟨n,l,?_,?_,by omega⟩
  ·rw [ze0]; unfold zt4; rw [bW (by simp; omega)]
  ·rw [zaK8 (by omega),wraps_u8 _ (by omega) (by omega)]
 | k+1,n,l,h,hk,hl=>by
  by_cases c:n < 128
  ·refine ⟨n,l,?_,?_,by omega⟩
   ·rw [ze0]; unfold zt4; rw [bW (by simp; omega)]
   ·rw [zaK8 c,wraps_u8 _ (by omega) (by omega)]
  ·have hbig:n < 18446744073709551616:=by
    have:128 ^ (k+1+1)≤128 ^ 9:=Nat.pow_le_pow_right (by decide) (by omega)
    omega
   obtain ⟨y,l',h1,h2,h3⟩:=zbk0 k (n / 128) (l++[((n % 128+128:Nat):Int)]) (by rw [Nat.pow_succ] at h; omega) (by omega) (by simp; omega)
   refine ⟨y,l',?_,?_,by simp at h3; omega⟩
   ·rw [ze0]
    have hstep:zt4 ((n:Int),l)=some (.inl (((n / 128:Nat):Int),l++[((n % 128+128:Nat):Int)])):=by
     unfold zt4
     simp only
     rw [bY (by simp; omega),gdp (by omega),zcF6 (by omega) (by omega),wraps_u8 _ (by omega) (by omega),zdk2 (by omega) (by omega)]
     have:(n:Int).fdiv (2 ^ 7)=((n / 128:Nat):Int):=by rw [Int.fdiv_eq_ediv_of_nonneg _ (by decide)]; omega
     rw [this]
     have:(n:Int) % 128+128=((n % 128+128:Nat):Int):=by omega
     rw [this]
    rw [hstep]
    exact h1
   ·rw [h2,zba9 c,cG]; rfl
theorem zbE4 {n:Nat} {l:List Int} (hn:n < 128 ^ 9) (hl:l.length≤4294967000):ze7 l (n:Int)=some (l++encU n):=by
 obtain ⟨y,l',h1,h2,h3⟩:=zbk0 8 n l hn (by decide) (by omega)
 unfold ze7
 rw [gdp (by omega),h1,Option.bind_some]
 unfold zY1
 rw [gdp (by simp only; omega)]
 simp only [h2]
theorem zcx2 {n:Nat} {l:List Int} (hn:n < 128 ^ 9) (hl:l.length≤4294967000):zf7 l (n:Int)=some (l++encU n):=by
 rw [← zbE4 hn hl]; rfl
theorem zcF7 (g:Int×List Int):zP4 g=zt4 g:=by
 unfold zP4 zt4
 by_cases c:127 < g.1
 ·rw [bY (by simpa using c),bY (by simp; omega)]
 ·rw [bW (by simpa using c),bW (by simp; omega)]
theorem zcU4 (l:List Int) (x:Int) (hl:l.length≤4294967000):ze6 l x=ze7 l x:=by
 unfold ze6 ze7
 have hb:zP4=zt4:=funext zcF7
 have ht:l.take ((l.length:Int).toNat)=l:=by rw [Int.toNat_natCast,eK]
 have g2:l.length+1≤4294967296:=by omega
 have g3:l.length≤4294967296:=by omega
 rw [ht,hb,gdp (by omega),gdp g2,gdp g3,ze0 zt4 (x,l)]
 by_cases c:127 < x
 ·rw [bY (by simpa using c)]
  have:zt4 (x,l)=some (.inl (x.fdiv (2 ^ 7),l++[zA9 .or .u8 (IntKind.u8.wrap (zA9 .and .u64 x 127)) 128])):=by
   unfold zt4
   rw [bY (by simp; omega),gdp (by simp only; omega)]
  rw [this]
  rfl
 ·rw [bW (by simpa using c)]
  have:zt4 (x,l)=some (.inr (x,l)):=by
   unfold zt4
   rw [bW (by simp; omega)]
  rw [this]
  show _=zY1 (x,l)
  unfold zY1
  rw [gdp g2]
theorem zcg7 {n:Nat} {l:List Int} (hn:n < 128 ^ 9) (hl:l.length≤4294967000):ze6 l (n:Int)=some (l++encU n):=by
 rw [zcU4 l _ hl,zbE4 hn hl]
theorem zcx3 {n:Nat} {l:List Int} (hn:n < 128 ^ 9) (hl:l.length≤4294967000):zf6 l (n:Int)=some (l++encU n):=by
 rw [← zcg7 hn hl]; rfl
theorem zcU5 {a rest:List Int} (ha:zD7 a):∀ (k m i:Nat) (v:Int),i+k=4→m < 128 ^ (k+1)→a.drop i=encU m++rest→(i=0∨1≤m)→0≤v→v < 2 ^ (7 * i) →
  zc0 (zx1 a) (v,(i:Int))=some (.inr (v+(m:Int) * 2 ^ (7 * i),((i+(encU m).length:Nat):Int),0)):=by
 have step:∀ (m i:Nat) (v:Int),i≤4→a.drop i=encU m++rest→0≤v→v < 2 ^ (7 * i)→(m < 128→(i=0∨1≤m)→zx1 a (v,(i:Int))=some (.inr (.inr (v+(m:Int) * 2 ^ (7 * i),((i+1:Nat):Int),0)))) ∧
   (¬ m < 128→zx1 a (v,(i:Int))=some (.inl (v+((m % 128:Nat):Int) * 2 ^ (7 * i),((i+1:Nat):Int)))):=by
  intro m i v hi hd h0 h1
  have hne:encU m≠[]:=by
   rw [encU]; split <;> simp
  have hlen:i < a.length:=by
   have:=dR List.length hd
   rw [dS,cA] at this
   have:0 < (encU m).length:=gG.2 hne
   omega
  have hw:IntKind.i64.wrap (7 * (i:Int))=((7 * i:Nat):Int):=by rw [zd2 (by omega) (by omega)]; omega
  have hw2:(IntKind.i64.wrap (7 * (i:Int))).toNat=7 * i:=by rw [hw]; rfl
  have hmin:Nat.min (7 * i) IntKind.u64.bits=7 * i:=fS (by show 7 * i≤64; omega)
  have hget:∀ c t,a.drop i=c :: t→a.getD ((i:Int).toNat) 0=c:=fun c t e=>by
   have:=zaq9 a i 0 hlen
   rw [e] at this
   exact (List.cons.inj this).1.symm
  unfold zx1
  simp only
  rw [bY (by simp; omega),bW (by simp; omega),gdp (by omega),bW (by simp; omega),gdp (by omega),zd0 i (by omega),hw2,hmin]
  constructor
  ·intro c hm
   have hc:=hget (m:Int) rest (by rw [hd,zaK8 c]; rfl)
   rw [hc,(zcF3 (m:Int) (by omega) (by omega)).2 (by omega),zbE3 (by omega) (by omega),zX4 ((m:Int) % 128) (by omega) (by omega),zcn4 (7 * i) (by omega) h0 h1 (by omega) (by omega)]
   have hmm:(m:Int) % 128=m:=by omega
   have h2:(decide ((m:Int)=0)&&decide ((0:Int) < (i:Int)))=false:=by
    rw [eA]; simp; omega
   rw [hmm,h2]
   simp
  ·intro c
   have hc:=hget ((m % 128+128:Nat):Int) (encU (m / 128)++rest) (by rw [hd,zba9 c]; rfl)
   have hb:¬ zA9 .and .u8 ((m % 128+128:Nat):Int) 128=0:=fun e=>by have:=(zcF3 _ (by omega) (by omega)).1 e; omega
   rw [hc,zbE3 (by omega) (by omega),zX4 (((m % 128+128:Nat):Int) % 128) (by omega) (by omega),zcn4 (7 * i) (by omega) h0 h1 (by omega) (by omega)]
   have hmm:((m % 128+128:Nat):Int) % 128=((m % 128:Nat):Int):=by omega
   rw [hmm,bY (by simpa using hb)]
 intro k
 induction k with
 | zero =>
  intro m i v hi hm hd h0 hv0 hv
  rw [ze0,(step m i v (by omega) hd hv0 hv).1 (by omega) h0,zaK8 (by omega)]
  rfl
 | succ k ih =>
  intro m i v hi hm hd h0 hv0 hv
  by_cases c:m < 128
  ·rw [ze0,(step m i v (by omega) hd hv0 hv).1 c h0,zaK8 c]
   rfl
  ·rw [ze0,(step m i v (by omega) hd hv0 hv).2 c]
   have hp:(2:Int) ^ (7 * (i+1))=128 * 2 ^ (7 * i):=by rw [Nat.mul_add,Int.pow_add]; omega
   have hq:(0:Int) < 2 ^ (7 * i):=by exact_mod_cast Nat.two_pow_pos _
   have hm1:((m % 128:Nat):Int) * 2 ^ (7 * i)≤127 * 2 ^ (7 * i):=Int.mul_le_mul_of_nonneg_right (by omega) (by omega)
   have hm0:0≤((m % 128:Nat):Int) * 2 ^ (7 * i):=Int.mul_nonneg (by omega) (by omega)
   have:=ih (m / 128) (i+1) (v+((m % 128:Nat):Int) * 2 ^ (7 * i)) (by omega) (by rw [Nat.pow_succ] at hm; omega) (by
    rw [← eQ,hd,zba9 c]; rfl) (.inr (by omega)) (by omega) (by rw [hp]; omega)
   simp only
   rw [this,zba9 c,hp]
   have e1:(m:Int)=128 * ((m / 128:Nat):Int)+((m % 128:Nat):Int):=by omega
   have e2:v+((m % 128:Nat):Int) * 2 ^ (7 * i)+((m / 128:Nat):Int) * (128 * 2 ^ (7 * i))=v+(m:Int) * 2 ^ (7 * i):=by
    rw [e1,Int.add_mul,Int.mul_assoc 128,Int.mul_left_comm]
    omega
   rw [e2]
   simp only [List.length_cons]
   rw [show i+1+(encU (m / 128)).length=i+((encU (m / 128)).length+1) by omega]
theorem zcx4 {n:Nat} {rest:List Int} (hn:n < 128 ^ 5) (hr:zD7 rest):zi6 (encU n++rest)=some ((n:Int),((encU n).length:Int),0):=by
 have hb:zD7 (encU n++rest):=fun x hx=>by
  rcases cU.1 hx with h|h
  ·exact zbt8 n x h
  ·exact hr x h
 unfold zi6
 have:=zcU5 (rest:=rest) hb 4 n 0 0 rfl hn rfl (.inl rfl) (eH _) (by decide)
 rw [show ((0,0):Int×Int)=(0,((0:Nat):Int)) from rfl,this]
 simp
end Ab
end Go.Proofs.YtcggeefhhegeoaaGreatDoor
