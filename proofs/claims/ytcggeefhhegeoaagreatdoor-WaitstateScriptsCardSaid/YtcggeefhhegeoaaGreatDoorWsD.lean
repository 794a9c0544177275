import Derived.Test.YtcggeefhhegeoaaGreatDoorTabA
import Derived.Test.YtcggeefhhegeoaaGreatDoorLinA
import Derived.Laws.Bits64
import Derived.Laws.BitsLemmas
import Derived.KernelRfl
namespace Go.Proofs.YtcggeefhhegeoaaGreatDoor
namespace Ab
set_option linter.unusedVariables false
set_option linter.unusedSimpArgs false
theorem zby7 (x:Proc) (s:List Proc) (hs:s.Pairwise ltP) (hx:x ∉ s) (hl:s.length≤1000000):zc0 (zP8) ((s.length:Int),s++[x])=some (zaE4 x s):=by
 obtain ⟨r,h1,h2⟩:=zr8 (body:=zP8) (fun g=>∃ pre post:List Proc,g=((pre.length:Int),pre++x :: post)∧pre++post=s∧∀ y ∈ post,ltP x y) (fun g=>g.1.toNat) (fun r=>r=zaE4 x s) (by
  rintro g ⟨pre,post,rfl,hp,hpost⟩
  have hpl:pre.length+post.length=s.length:=by rw [← hp,List.length_append]
  unfold zP8
  simp only [List.length_append,List.length_cons]
  by_cases h0:pre=[]
  ·right
   subst h0
   refine ⟨_,by rw [zg7 (by simp),zg7 (by simp),if_neg (by simp)],?_⟩
   simp only [List.nil_append] at hp ⊢
   subst hp
   refine zaK9 (List.pairwise_cons.2 ⟨hpost,hs⟩) (zaA0 hs) fun y=>?_
   rw [zaz9,List.mem_cons]
  ·obtain ⟨pre',y,rfl⟩:∃ p' y,pre=p'++[y]:=⟨pre.dropLast,pre.getLast h0,(List.dropLast_concat_getLast h0).symm⟩
   have hk:(pre'++[y]).length=pre'.length+1:=by simp
   rw [hk] at hpl ⊢
   have w:IntKind.i64.wrap (((pre'.length+1:Nat):Int) - 1)=(pre'.length:Int):=by rw [zf6 (by omega) (by omega)]; omega
   have e1:(pre'++[y]++x :: post).getD pre'.length Proc.zero=y:=by simp [List.getD_eq_getElem?_getD]
   have e2:(pre'++[y]++x :: post).getD (pre'.length+1) Proc.zero=x:=by simp [List.getD_eq_getElem?_getD]
   have g1:0≤(pre'.length:Int)∧(pre'.length:Int) < ((pre'.length+1+(post.length+1):Nat):Int):=by omega
   have g2:0≤((pre'.length+1:Nat):Int)∧((pre'.length+1:Nat):Int) < ((pre'.length+1+(post.length+1):Nat):Int):=by omega
   have hpos:decide (0 < ((pre'.length+1:Nat):Int))=true:=decide_eq_true (by omega)
   simp only [w,Int.toNat_natCast,e1,e2,hpos,Bool.true_and]
   rw [zg7 (fun _=>g1),zg7 (fun _=>g2)]
   have hlt:decide (0 < zt4 y x)=decide (ltP x y):=by rw [decide_eq_decide]; exact zbN3 y x
   rw [hlt]
   by_cases hxy:ltP x y
   ·left
    rw [if_pos (decide_eq_true hxy),zg7 g1,zg7 g2,zg7 g1,zg7 g2]
    refine ⟨((pre'.length:Int),pre'++x :: (y :: post)),?_,⟨pre',y :: post,rfl,by rw [← hp]; simp,fun z hz=>?_⟩,by simp only [Int.toNat_natCast]; omega⟩
    ·congr 3
     rw [List.append_assoc,List.set_append_right _ _ (Nat.le_refl _),Nat.sub_self,List.set_append_right _ _ (by omega),show pre'.length+1 - pre'.length=1 by omega]
     rfl
    ·rcases List.mem_cons.1 hz with rfl|hz
     ·exact hxy
     ·exact hpost z hz
   ·right
    refine ⟨_,by rw [if_neg (by simpa using hxy)],?_⟩
    have hyx:ltP y x:=by
     rcases zat4 (p:=x) (q:=y) (fun e=>hx (by rw [← hp,e]; simp)) with h|h
     ·exact absurd h hxy
     ·exact h
    rw [← hp] at hs
    obtain ⟨a1,a2,a3⟩:=List.pairwise_append.1 hs
    obtain ⟨b1,b2,b3⟩:=List.pairwise_append.1 a1
    have hpre:∀ z ∈ pre'++[y],ltP z x:=fun z hz=>by
     rcases List.mem_append.1 hz with hz|hz
     ·exact zat3 (b3 z hz y (by simp)) hyx
     ·rw [List.mem_singleton] at hz; rw [hz]; exact hyx
    rw [← hp]
    refine zaK9 (List.pairwise_append.2 ⟨a1,List.pairwise_cons.2 ⟨hpost,a2⟩,fun z hz u hu=>?_⟩) (zaA0 hs) fun z=>?_
    ·rcases List.mem_cons.1 hu with rfl|hu
     ·exact hpre z hz
     ·exact a3 z hz u hu
    ·rw [zaz9]
     simp only [List.mem_append,List.mem_cons,List.mem_singleton]
     constructor
     ·rintro ((h|h)|h|h)
      ·exact .inr (.inl (.inl h))
      ·exact .inr (.inl (.inr h))
      ·exact .inl h
      ·exact .inr (.inr h)
     ·rintro (h|(h|h)|h)
      ·exact .inr (.inl h)
      ·exact .inl (.inl h)
      ·exact .inl (.inr h)
      ·exact .inr (.inr h)) ((s.length:Int),s++[x]) ⟨s,[],by simp,by simp,by simp⟩
 rw [h1,h2]
theorem zar9 (l:List Proc) (hl:l.length≤1000000):zh6 l=some (zbf2 l):=by
 unfold zh6
 have key:=zC3 (body:=zC6 l) l Proc.zero (fun i (s:List Proc)=>((i:Int),s)) (fun _ p s=>some (.inl (zaE4 p s))) (fun s=>s) (fun i s=>s.Pairwise ltP∧s.length≤i)
  (fun i s hi hs=>by
   have hlen:∀ p,(zaE4 p s).length≤s.length+1:=fun p=>by
    have:=List.Nodup.length_le_of_subset (zaT3 (zaA0 (p:=p) hs.1)) (l₂:=p :: s) fun z hz=>by
     rcases zaz9.1 hz with rfl|h
     ·exact .head _
     ·exact .tail _ h
    simpa using this
   refine ⟨?_,fun s' h=>?_⟩
   ·unfold zC6
    have h3:0≤(i:Int)∧(i:Int) < (l.length:Int):=by omega
    simp only [h3.1,h3.2,and_self,zm3,decide_true,if_true,Int.toNat_natCast]
    rw [zaT4 _ _ (by omega),Option.bind_some,zc4 i (by omega)]
    by_cases hm:l.getD i Proc.zero ∈ s
    ·rw [if_pos (decide_eq_true hm),Option.map_some,zcy7 hs.1 hm]; rfl
    ·rw [if_neg (by rw [decide_eq_true_eq]; exact hm),zg7 (by omega),zby7 _ _ hs.1 hm (by omega),Option.bind_some]
     unfold zaj7
     simp only [zc4 i (show i < 4611686018427387904 by omega),Option.map_some,wmap]
   ·simp only [Option.some.injEq,Sum.inl.injEq] at h; subst h
    exact ⟨zaA0 hs.1,by have:=hlen (l.getD i Proc.zero); omega⟩)
  (fun s hs=>by unfold zC6; simp) [] ⟨.nil,by simp⟩
 rw [show ((0,[]):Int×List Proc)=(fun (i:Nat) (s:List Proc)=>((i:Int),s)) 0 [] from rfl,key,zbO6 (fun s p=>zaE4 p s)]
 rfl
theorem zaE6 {α β:Type} (l:List α) (z:α) (f:α→β) (s0:List β) {body:Int×List β→Option ((Int×List β)⊕List β)} (hl:l.length≤1000000) (h0:s0.length≤1000000)
  (hb:∀ (i:Nat) (s:List β),i < l.length→s.length≤3000000→body ((i:Int),s)=some (.inl (((i+1:Nat):Int),s++[f (l.getD i z)]))) (he:∀ s,body ((l.length:Int),s)=some (.inr s)):zc0 body (0,s0)=some (s0++l.map f):=by
 have key:=zC3 (body:=body) l z (fun i (s:List β)=>((i:Int),s)) (fun i a s=>some (.inl (zaE1 s (some (f a))))) (fun s=>s) (fun i s=>s.length≤1000000+i)
  (fun i s hi hs=>⟨by rw [hb i s hi (by omega)]; rfl,fun s' h=>by simp only [Option.some.injEq,Sum.inl.injEq] at h; subst h; simp [zaE1]; omega⟩) (fun s hs=>he s) s0 (by omega)
 rw [show ((0,s0):Int×List β)=(fun (i:Nat) (s:List β)=>((i:Int),s)) 0 s0 from rfl,key,zaH6 (fun a=>some (f a))]
 simp
theorem zby8 (l:List Hold) (hl:l.length≤1000000):zh1 l=some (l.map (·.proc)):=by
 unfold zh1
 rw [zaE6 l Hold.zero (·.proc) [] hl (by simp) (fun i s hi hs=>by
  unfold zaf6
  have h3:0≤(i:Int)∧(i:Int) < (l.length:Int):=by omega
  have h1:s.length+1≤4294967296:=by omega
  simp only [h1,h3.1,h3.2,and_self,zm3,decide_true,if_true,Int.toNat_natCast,zc4 i (show i < 4611686018427387904 by omega)]) (fun s=>by unfold zaf6; simp)]
 rfl
theorem zbQ4 (q:Queue) (h1:q.converts.length≤1000) (h2:q.waits.length≤1000):zj9 q=some ((ordQ q).map (·.proc)):=by
 unfold zj9
 rw [zaE6 q.converts Wait.zero (·.proc) [] (by omega) (by simp) (fun i s hi hs=>by
  unfold zam1
  have h3:0≤(i:Int)∧(i:Int) < (q.converts.length:Int):=by omega
  have h1:s.length+1≤4294967296:=by omega
  simp only [h1,h3.1,h3.2,and_self,zm3,decide_true,if_true,Int.toNat_natCast,zc4 i (show i < 4611686018427387904 by omega)]) (fun s=>by unfold zam1; simp),Option.bind_some]
 unfold zam0
 rw [zaE6 q.waits Wait.zero (·.proc) _ (by omega) (by simp; omega) (fun i s hi hs=>by
  unfold zal9
  have h3:0≤(i:Int)∧(i:Int) < (q.waits.length:Int):=by omega
  have h1:s.length+1≤4294967296:=by omega
  simp only [h1,h3.1,h3.2,and_self,zm3,decide_true,if_true,Int.toNat_natCast,zc4 i (show i < 4611686018427387904 by omega)]) (fun s=>by unfold zal9; simp),Option.bind_some]
 unfold zay5 ordQ
 rw [List.map_append,List.nil_append]
theorem zbQ5 (q:Queue) (h0:q.holds.length≤1000) (h1:q.converts.length≤1000) (h2:q.waits.length≤1000):zs1 q=some (zak8 q):=by
 unfold zs1 zak8
 have hl:(ordQ q).length≤2000:=by unfold ordQ; rw [List.length_append]; omega
 rw [zby8 _ (by omega),Option.bind_some,zbQ4 q h1 h2,Option.bind_some,zg7 (by simp; omega),zar9 _ (by simp; omega)]
 rfl
theorem zax4 {t:List Queue} (hl:t.length≤8) (h:∀ q ∈ t,zk0 q=true):zv3 t=some (zC2 t):=by
 unfold zv3
 have key:=zC3 (body:=zad4 t) t Queue.zero (fun i (s:List Proc)=>((i:Int),s)) (fun _ q s=>some (.inl (s++zak8 q))) (fun s=>s) (fun i s=>s.length≤24 * i)
  (fun i s hi hs=>by
   have hq:=h _ (zj8 (z:=Queue.zero) hi)
   have hql:=zag4 hq
   have hpl:=zca9 hq
   refine ⟨?_,fun s' h=>?_⟩
   ·unfold zad4
    have h3:0≤(i:Int)∧(i:Int) < (t.length:Int):=by omega
    simp only [h3.1,h3.2,and_self,zm3,decide_true,if_true,Int.toNat_natCast]
    rw [zbQ5 _ (by omega) (by omega) (by omega),Option.bind_some,zg7 (by omega),zc4 i (by omega)]
    rfl
   ·simp only [Option.some.injEq,Sum.inl.injEq] at h; subst h; rw [List.length_append]; omega)
  (fun s hs=>by unfold zad4; simp) [] (by simp)
 rw [show ((0,[]):Int×List Proc)=(fun (i:Nat) (s:List Proc)=>((i:Int),s)) 0 [] from rfl,key,zbQ2 zak8,List.nil_append,Option.bind_some]
 unfold zay9
 have:=zbt2 t h
 rw [zar9 _ (by omega)]; rfl
theorem zbf5 (t:List Queue):zO8 t=some (zak9 t):=by
 unfold zO8 zak9
 by_cases h8:8 < t.length
 ·have:¬ t.length≤8:=by omega
  rw [if_pos (by simp; omega)]
  simp [this]
 ·have hl:t.length≤8:=by omega
  rw [if_neg (by simp; omega),zbQ1 t hl (fun i hi=>by
   unfold zan4
   have h3:0≤(i:Int)∧(i:Int) < (t.length:Int):=by omega
   simp only [h3.1,h3.2,and_self,implies_true,zm3,decide_true,if_true,Int.toNat_natCast,zak7,Option.bind_some,zc4 i (by omega)]
   by_cases e0:i=0
   ·subst e0
    rw [zg7 (by simp)]
    cases zk0 (t.getD 0 Queue.zero) <;> simp
   ·rw [zaz5 i (by omega) (by omega),zg7 (by intro _; omega)]
    simp only [Int.toNat_natCast,show (0:Int) < (i:Int) by omega,decide_true,Bool.true_and,e0,false_or]
    unfold ltN
    rcases hb (zk0 (t.getD i Queue.zero)) with b1|b1 <;> rcases hb (Op.bytesLess (t.getD (i - 1) Queue.zero).resource.name.toList (t.getD i Queue.zero).resource.name.toList) with b2|b2 <;> simp [b1,b2,-List.getD_eq_getElem?_getD]) (by unfold zan4; simp)]
  simp only [hl,decide_true,Bool.true_and]
  cases hw:ascW t none <;> rfl
theorem zal1 (t:List Queue):zF8 t=some (zaF8 t):=by
 unfold zF8 zaF8
 rw [zbf5,Option.bind_some]
 cases hp:zak9 t with
 | false=>rfl
 | true =>
  obtain ⟨h1,h2,_⟩:=(zal0 t).1 hp
  rw [if_pos rfl,zax4 h1 h2,Option.bind_some,Bool.true_and]
  congr 1
  rw [Bool.eq_iff_iff]; simp; omega
theorem zP1 (t:List Queue) (nm:ByteArray) (hl:t.length≤1000000):zh5 t nm=some (zz5 t nm):=by
 unfold zh5
 rw [zbi5 t Queue.zero (isN nm) (fun i hi=>by
  unfold zaq2 isN
  have h3:0≤(i:Int)∧(i:Int) < (t.length:Int):=by omega
  simp only [h3.1,h3.2,and_self,zm3,decide_true,if_true,Int.toNat_natCast,zc4 i (by omega)]
  split <;> rfl) (by unfold zaq2; simp)]
 unfold zz5
 cases t.findIdx? (isN nm) <;> rfl
theorem zcz5 (a b:List Queue) (h:a.length=b.length) (hl:a.length≤1000000) (hs:∀ q ∈ a,q.holds.length≤1000∧q.converts.length≤1000∧q.waits.length≤1000) :
  zc0 (zX7 a b) 0=some (if a=b then .inl () else .inr false):=by
 have key:zc0 (zX7 a b) 0=some ((zL6 (fun i=>if decide (a.getD i Queue.zero=b.getD i Queue.zero)=true then none else some (Sum.inr false)) a.length 0).getD (Sum.inl ())):=by
  refine zG6 a.length _ (Sum.inl ()) (fun i hi=>?_) ?_
  ·have hq:=hs _ (zj8 (z:=Queue.zero) hi)
   unfold zX7
   rw [if_pos (by simpa using hi),zg7 (by omega),zg7 (by omega),zf6 (by omega) (by omega)]
   simp only [Int.toNat_natCast]
   rw [zbV7 _ _ (by omega) (by omega) (by omega),Option.bind_some]
   by_cases hx:a.getD i Queue.zero=b.getD i Queue.zero
   ·simp only [hx,decide_true,Bool.not_true,Bool.false_eq_true,if_false,if_true]
   ·simp only [hx,decide_false,Bool.not_false,if_true,Bool.false_eq_true,if_false]
  ·unfold zX7
   rw [if_neg (by simp)]
 rw [key,zS1,← List.range_eq_range',zda4 a b Queue.zero h]
 by_cases e:a=b <;> simp [e]
theorem zbW1 (a b:List Queue) (hl:a.length≤1000000) (hs:∀ q ∈ a,q.holds.length≤1000∧q.converts.length≤1000∧q.waits.length≤1000):zr6 a b=some (decide (a=b)):=by
 unfold zr6
 by_cases h:a.length=b.length
 ·rw [if_neg (by simp [h]),zcz5 a b h hl hs]
  by_cases e:a=b <;> simp [e,zaF1]
 ·have:¬ a=b:=fun e=>h (by rw [e])
  rw [if_pos (by simp; omega),decide_eq_false this]
mutual
def zr7:Expr→Int
 | ⟨_,_,ks⟩=>1+zt9 ks
def zt9:List Expr→Int
 | []=>0
 | k :: l=>max (zr7 k) (zt9 l)
end
mutual
def zn0:Expr→Int
 | ⟨_,_,ks⟩=>1+zw6 ks
def zw6:List Expr→Int
 | []=>0
 | k :: l=>zn0 k+zw6 l
end
def zax5 (a:Amount):Bool:=zr2 a
mutual
def okE:Expr→Bool
 | ⟨k,a,ks⟩=>if ks.length=0 then decide (k=0)&&zW0 a.name&&zax5 a.amount else decide (1≤k)&&decide (k≤(ks.length:Int))&&decide (a=Atom.zero)&&okL ks
def okL:List Expr→Bool
 | []=>true
 | k :: l=>okE k&&okL l
end
mutual
def zW8:Expr→List Atom
 | ⟨_,a,ks⟩=>if ks.length=0 then [a] else zG5 ks
def zG5:List Expr→List Atom
 | []=>[]
 | k :: l=>zW8 k++zG5 l
end
theorem zaT6 (e:Expr):zr7 e=1+zt9 e.kids:=by cases e; rw [zr7]
theorem zH7 (e:Expr):zn0 e=1+zw6 e.kids:=by cases e; rw [zn0]
theorem zch5 (e:Expr):okE e=if e.kids.length=0 then decide (e.k=0)&&zW0 e.atom.name&&zax5 e.atom.amount else decide (1≤e.k)&&decide (e.k≤(e.kids.length:Int))&&decide (e.atom=Atom.zero)&&okL e.kids:=by cases e; rw [okE]
theorem zas0 (e:Expr):zW8 e=if e.kids.length=0 then [e.atom] else zG5 e.kids:=by cases e; rw [zW8]
theorem zbo7:zt9 []=0:=by rw [zt9]
theorem zaE7 (k:Expr) (l:List Expr):zt9 (k :: l)=max (zr7 k) (zt9 l):=by rw [zt9]
theorem zaW8:zw6 []=0:=by rw [zw6]
theorem zaa3 (k:Expr) (l:List Expr):zw6 (k :: l)=zn0 k+zw6 l:=by rw [zw6]
theorem zah6 {e k:Expr} {n:Nat} (h:_root_.SizeOf.sizeOf e < n+1) (hk:k ∈ e.kids):_root_.SizeOf.sizeOf k < n:=by
 have h2:=List.sizeOf_lt_of_mem hk
 cases e
 simp at h h2
 omega
theorem zbH3:∀ (n:Nat) (e:Expr),_root_.SizeOf.sizeOf e < n→1≤zr7 e∧1≤zn0 e∧zr7 e≤zn0 e∧((zW8 e).length:Int)≤zn0 e
 | 0,_,h=>by omega
 | n+1,e,h=>by
  have key:∀ l:List Expr,(∀ k ∈ l,k ∈ e.kids)→0≤zt9 l∧0≤zw6 l∧zt9 l≤zw6 l∧(l.length:Int)≤zw6 l∧((zG5 l).length:Int)≤zw6 l:=by
   intro l
   induction l with
   | nil=>intro _; simp [zt9,zw6,zG5]
   | cons k l ih =>
    intro hl
    obtain ⟨h1,h2,h3,h4,h5⟩:=ih fun x hx=>hl x (.tail _ hx)
    obtain ⟨g1,g2,g3,g4⟩:=zbH3 n k (zah6 h (hl k (.head _)))
    simp only [zt9,zw6,zG5,List.length_append,List.length_cons]
    refine ⟨?_,?_,?_,?_,?_⟩ <;> omega
  obtain ⟨h1,h2,h3,h4,h5⟩:=key e.kids fun _ h=>h
  rw [zaT6,zH7,zas0]
  refine ⟨by omega,by omega,by omega,?_⟩
  split
  ·simp; omega
  ·omega
theorem zag6 (e:Expr):1≤zr7 e:=(zbH3 _ e (Nat.lt_succ_self _)).1
theorem zS2 (e:Expr):1≤zn0 e:=(zbH3 _ e (Nat.lt_succ_self _)).2.1
theorem zbo8 (e:Expr):((zW8 e).length:Int)≤zn0 e:=(zbH3 _ e (Nat.lt_succ_self _)).2.2.2
theorem zaL1:∀ l:List Expr,0≤zt9 l
 | []=>by simp [zt9]
 | k :: l=>by have:=zaL1 l; have:=zag6 k; rw [zaE7]; omega
theorem zC0:∀ l:List Expr,(l.length:Int)≤zw6 l
 | []=>by simp [zw6]
 | k :: l=>by have:=zC0 l; have:=zS2 k; simp only [zw6,List.length_cons]; omega
theorem zbt4 {a:Int} (h1:1≤a) (h4:a≤4) (F:Expr→Int→Option (Int×Int)):∀ (l:List Expr),(∀ k ∈ l,∀ c,0≤c→c≤24→∃ c',F k c=some (if a+1+zr7 k≤5∧c+zn0 k≤24 then (zr7 k,c+zn0 k) else (0,c'))) →
  ∀ (i:Nat) (m c:Int),0≤m→0≤c→c≤24→∃ c',walk (fun _ k (s:Int×Int)=>(F k s.2).bind fun v=>if v.1=0 then some (.inr (Sum.inr (0,v.2))) else some (.inl (if s.1 < v.1 then v.1 else s.1,v.2))) (fun s=>Sum.inl (β:=Int×Int) s) l i (m,c) =
   some (if a+1+zt9 l≤5∧c+zw6 l≤24 then .inl (if m < zt9 l then zt9 l else m,c+zw6 l) else .inr (0,c'))
 | [],_,i,m,c,hm,hc,h24=>⟨0,by rw [zbo7,zaW8,if_pos (by omega)]; simp only [walk]; rw [if_neg (by omega),Int.add_zero]⟩
 | k :: l,hF,i,m,c,hm,hc,h24=>by
  obtain ⟨c1,e1⟩:=hF k (.head _) c hc h24
  have p1:=zag6 k
  have p2:=zS2 k
  have p3:=zaL1 l
  have p4:=zC0 l
  by_cases hk:a+1+zr7 k≤5∧c+zn0 k≤24
  ·rw [if_pos hk] at e1
   obtain ⟨c2,e2⟩:=zbt4 h1 h4 F l (fun x hx=>hF x (.tail _ hx)) (i+1) (if m < zr7 k then zr7 k else m) (c+zn0 k) (by split <;> omega) (by omega) hk.2
   refine ⟨c2,?_⟩
   rw [zaE7,zaa3]
   simp only [walk,e1,Option.bind_some,if_neg (show ¬ zr7 k=0 by omega),e2]
   by_cases hl:a+1+zt9 l≤5∧c+zn0 k+zw6 l≤24
   ·rw [if_pos hl,if_pos (show a+1+max (zr7 k) (zt9 l)≤5∧c+(zn0 k+zw6 l)≤24 by omega),show c+(zn0 k+zw6 l)=c+zn0 k+zw6 l by omega]
    refine congrArg some (congrArg Sum.inl (Prod.ext ?_ rfl))
    show (if (if m < zr7 k then zr7 k else m) < zt9 l then zt9 l else if m < zr7 k then zr7 k else m)=if m < max (zr7 k) (zt9 l) then max (zr7 k) (zt9 l) else m
    by_cases q1:m < zr7 k <;> by_cases q2:m < zt9 l <;> by_cases q3:zr7 k < zt9 l <;> simp only [q1,q2,q3,if_true,if_false] <;> (repeat' split) <;> omega
   ·rw [if_neg hl,if_neg (by omega)]
  ·rw [if_neg hk] at e1
   refine ⟨c1,?_⟩
   rw [zaE7,zaa3]
   simp only [walk,e1,Option.bind_some,if_true]
   rw [if_neg (by omega)]
theorem zbQ6:∀ (n:Nat) (e:Expr),_root_.SizeOf.sizeOf e < n→∀ a c,1≤a→a≤5→0≤c→c≤24→∃ c',zx0 n e a c=some (if a+zr7 e≤5∧c+zn0 e≤24 then (zr7 e,c+zn0 e) else (0,c'))
 | 0,_,h,_,_,_,_,_,_=>by omega
 | n+1,e,h,a,c,h1,h5,h0,h24=>by
  show ∃ c',zF2 (zx0 n) e a c=_
  unfold zF2
  have p1:=zag6 e
  have p2:=zS2 e
  have w1:IntKind.i64.wrap (c+1)=c+1:=zf6 (by omega) (by omega)
  have w2:IntKind.i64.wrap (a+1)=a+1:=zf6 (by omega) (by omega)
  rw [w1]
  by_cases c4:4 < a∨24 < c+1
  ·rw [if_pos (by simpa using c4)]
   exact ⟨c+1,by rw [if_neg (by omega)]⟩
  ·rw [if_neg (by simpa using c4)]
   have hF:∀ k ∈ e.kids,∀ c,0≤c→c≤24→∃ c',zx0 n k (a+1) c=some (if a+1+zr7 k≤5∧c+zn0 k≤24 then (zr7 k,c+zn0 k) else (0,c')) :=
    fun k hk c h0 h24=>zbQ6 n k (zah6 h hk) (a+1) c (by omega) (by omega) h0 h24
   have key:=zC3 (body:=zI9 (zx0 n) e a) e.kids Expr.zero (fun i (s:Int×Int)=>(s.1,(i:Int),s.2))
    (fun _ k (s:Int×Int)=>(zx0 n k (a+1) s.2).bind fun v=>if v.1=0 then some (.inr (Sum.inr (0,v.2))) else some (.inl (if s.1 < v.1 then v.1 else s.1,v.2))) (fun s=>Sum.inl (β:=Int×Int) s)
    (fun i s=>(i:Int) < s.2∧s.2≤24) (fun i s hi hs=>by
     have hk:=zj8 (z:=Expr.zero) hi
     obtain ⟨c',e'⟩:=hF _ hk s.2 (by omega) hs.2
     have p2:=zS2 (e.kids.getD i Expr.zero)
     have p3:=zag6 (e.kids.getD i Expr.zero)
     refine ⟨?_,fun s' hs'=>?_⟩
     ·unfold zI9
      simp only
      rw [if_pos (by simpa using hi),gdp (by omega),w2]
      simp only [Int.toNat_natCast,e',Option.bind_some,decide_eq_true_eq,zc4 i (show i < 4611686018427387904 by omega)]
      by_cases cc:a+1+zr7 (e.kids.getD i Expr.zero)≤5∧s.2+zn0 (e.kids.getD i Expr.zero)≤24
      ·simp only [cc,and_self,if_true,if_neg (show ¬ zr7 (e.kids.getD i Expr.zero)=0 by omega)]; rfl
      ·simp only [cc,if_false,if_true]; rfl
     ·rw [e',Option.bind_some] at hs'
      by_cases cc:a+1+zr7 (e.kids.getD i Expr.zero)≤5∧s.2+zn0 (e.kids.getD i Expr.zero)≤24
      ·simp only [cc,and_self,if_true,if_neg (show ¬ zr7 (e.kids.getD i Expr.zero)=0 by omega),Option.some.injEq,Sum.inl.injEq] at hs'
       subst hs'
       simp only
       omega
      ·simp only [cc,if_false,if_true,Option.some.injEq,reduceCtorEq] at hs')
    (fun s hs=>by unfold zI9; simp) (0,c+1) (by simp only; omega)
   rw [show ((0,0,c+1):Int×Int×Int)=(fun (i:Nat) (s:Int×Int)=>(s.1,(i:Int),s.2)) 0 (0,c+1) from rfl,key]
   obtain ⟨c',e'⟩:=zbt4 h1 (by omega) (fun k c=>zx0 n k (a+1) c) e.kids hF 0 0 (c+1) (by decide) (by omega) (by omega)
   refine ⟨c',?_⟩
   rw [e',Option.bind_some,zaT6 e,zH7 e]
   have p3:=zaL1 e.kids
   by_cases hh:a+1+zt9 e.kids≤5∧c+1+zw6 e.kids≤24
   ·rw [if_pos hh,if_pos (show a+(1+zt9 e.kids)≤5∧c+(1+zw6 e.kids)≤24 by omega)]
    have:(if 0 < zt9 e.kids then zt9 e.kids else 0)=zt9 e.kids:=by split <;> omega
    rw [this]
    show some (IntKind.i64.wrap (zt9 e.kids+1),c+1+zw6 e.kids)=_
    rw [zf6 (by omega) (by omega),show zt9 e.kids+1=1+zt9 e.kids by omega,show c+1+zw6 e.kids=c+(1+zw6 e.kids) by omega]
   ·rw [if_neg hh,if_neg (by omega)]
def fitE (e:Expr):Bool:=decide (zr7 e≤4)&&decide (zn0 e≤24)
theorem zdc5 (e:Expr):zk4 e=some (if fitE e=true then zr7 e else 0):=by
 unfold zk4 zd6
 obtain ⟨c',h⟩:=zbQ6 _ e (Nat.lt_succ_self _) 1 0 (by decide) (by decide) (by decide) (by decide)
 rw [h,Option.bind_some]
 unfold fitE
 by_cases c:1+zr7 e≤5∧0+zn0 e≤24
 ·rw [if_pos c,if_pos (by simp; omega)]
 ·rw [if_neg c,if_neg (by simp; omega)]
theorem zcb0 {a:Int} (h1:1≤a) (h4:a≤4) (F:Expr→Option (Int×Int)):∀ (l:List Expr),(∀ k ∈ l,F k=some (if a+1+zr7 k≤5∧zn0 k≤24 then (zn0 k,zr7 k) else (25,0))) →
  ∀ (i:Nat) (c m:Int),0≤m→1≤c→c≤24→walk (fun _ k (s:Int×Int)=>(F k).bind fun v=>if 24 < s.1+v.1 then some (.inr (Sum.inr (25,0))) else some (.inl (s.1+v.1,if s.2 < v.2 then v.2 else s.2))) (fun s=>Sum.inl (β:=Int×Int) s) l i (c,m) =
   some (if a+1+zt9 l≤5∧c+zw6 l≤24 then .inl (c+zw6 l,if m < zt9 l then zt9 l else m) else .inr (25,0))
 | [],_,i,c,m,hm,hc,h24=>by rw [zbo7,zaW8,if_pos (by omega)]; simp only [walk]; rw [if_neg (by omega),Int.add_zero]
 | k :: l,hF,i,c,m,hm,hc,h24=>by
  have e1:=hF k (.head _)
  have p1:=zag6 k
  have p2:=zS2 k
  have p3:=zaL1 l
  have p4:=zC0 l
  rw [zaE7,zaa3]
  by_cases hk:a+1+zr7 k≤5∧c+zn0 k≤24
  ·rw [if_pos (by omega)] at e1
   have e2:=zcb0 h1 h4 F l (fun x hx=>hF x (.tail _ hx)) (i+1) (c+zn0 k) (if m < zr7 k then zr7 k else m) (by split <;> omega) (by omega) hk.2
   simp only [walk,e1,Option.bind_some,if_neg (show ¬ 24 < c+zn0 k by omega),e2]
   by_cases hl:a+1+zt9 l≤5∧c+zn0 k+zw6 l≤24
   ·rw [if_pos hl,if_pos (show a+1+max (zr7 k) (zt9 l)≤5∧c+(zn0 k+zw6 l)≤24 by omega),show c+(zn0 k+zw6 l)=c+zn0 k+zw6 l by omega]
    refine congrArg some (congrArg Sum.inl (Prod.ext rfl ?_))
    show (if (if m < zr7 k then zr7 k else m) < zt9 l then zt9 l else if m < zr7 k then zr7 k else m)=if m < max (zr7 k) (zt9 l) then max (zr7 k) (zt9 l) else m
    by_cases q1:m < zr7 k <;> by_cases q2:m < zt9 l <;> by_cases q3:zr7 k < zt9 l <;> simp only [q1,q2,q3,if_true,if_false] <;> (repeat' split) <;> omega
   ·rw [if_neg hl,if_neg (by omega)]
  ·rw [if_neg (by omega)]
   simp only [walk,e1,Option.bind_some]
   by_cases hh:a+1+zr7 k≤5∧zn0 k≤24
   ·rw [if_pos hh,if_pos (by simp only; omega)]
   ·rw [if_neg hh,if_pos (by simp only; omega)]
theorem zcG9:∀ (n:Nat) (e:Expr),_root_.SizeOf.sizeOf e < n→∀ a,1≤a→a≤5→zO4 n e a=some (if a+zr7 e≤5∧zn0 e≤24 then (zn0 e,zr7 e) else (25,0))
 | 0,_,h,_,_,_=>by omega
 | n+1,e,h,a,h1,h5=>by
  show zac3 (zO4 n) e a=_
  unfold zac3
  have p1:=zag6 e
  have p4:=zC0 e.kids
  have w2:IntKind.i64.wrap (a+1)=a+1:=zf6 (by omega) (by omega)
  by_cases c4:4 < a∨24 < (e.kids.length:Int)
  ·rw [if_pos (by simpa using c4),if_neg (by rw [zH7]; omega)]
  ·rw [if_neg (by simpa using c4)]
   have hF:∀ k ∈ e.kids,zO4 n k (a+1)=some (if a+1+zr7 k≤5∧zn0 k≤24 then (zn0 k,zr7 k) else (25,0)) :=
    fun k hk=>zcG9 n k (zah6 h hk) (a+1) (by omega) (by omega)
   have key:=zC3 (body:=zX5 (zO4 n) e a) e.kids Expr.zero (fun i (s:Int×Int)=>(s.1,s.2,(i:Int)))
    (fun _ k (s:Int×Int)=>(zO4 n k (a+1)).bind fun v=>if 24 < s.1+v.1 then some (.inr (Sum.inr (25,0))) else some (.inl (s.1+v.1,if s.2 < v.2 then v.2 else s.2))) (fun s=>Sum.inl (β:=Int×Int) s)
    (fun i s=>1≤s.1∧s.1≤24) (fun i s hi hs=>by
     have hk:=zj8 (z:=Expr.zero) hi
     have e':=hF _ hk
     have p2:=zS2 (e.kids.getD i Expr.zero)
     refine ⟨?_,fun s' hs'=>?_⟩
     ·unfold zX5
      simp only
      rw [if_pos (by simpa using hi),gdp (by omega),w2]
      simp only [Int.toNat_natCast,e',Option.bind_some,decide_eq_true_eq]
      unfold zaq3
      by_cases cc:a+1+zr7 (e.kids.getD i Expr.zero)≤5∧zn0 (e.kids.getD i Expr.zero)≤24
      ·rw [if_pos cc]
       simp only [zc4 i (show i < 4611686018427387904 by omega),zf6 (x:=s.1+zn0 (e.kids.getD i Expr.zero)) (by omega) (by omega),decide_eq_true_eq]
       repeat' split
       all_goals first|rfl|omega
      ·rw [if_neg cc]
       simp only [zf6 (x:=s.1+25) (by omega) (by omega),decide_eq_true_eq,if_pos (show 24 < s.1+25 by omega),ite_self]
       rfl
     ·rw [e',Option.bind_some] at hs'
      by_cases cc:a+1+zr7 (e.kids.getD i Expr.zero)≤5∧zn0 (e.kids.getD i Expr.zero)≤24
      ·simp only [cc,and_self,if_true] at hs'
       split at hs'
       ·cases hs'
       ·simp only [Option.some.injEq,Sum.inl.injEq] at hs'
        subst hs'
        simp only
        omega
      ·simp only [cc,if_false,if_pos (show 24 < s.1+25 by omega),Option.some.injEq,reduceCtorEq] at hs')
    (fun s hs=>by unfold zX5; simp) (1,0) (by simp only; omega)
   rw [show ((1,0,0):Int×Int×Int)=(fun (i:Nat) (s:Int×Int)=>(s.1,s.2,(i:Int))) 0 (1,0) from rfl,key]
   rw [zcb0 h1 (by omega) (fun k=>zO4 n k (a+1)) e.kids hF 0 1 0 (by omega) (by omega) (by omega),Option.bind_some,zaT6 e,zH7 e]
   have p3:=zaL1 e.kids
   by_cases hh:a+1+zt9 e.kids≤5∧1+zw6 e.kids≤24
   ·rw [if_pos hh,if_pos (show a+(1+zt9 e.kids)≤5∧1+zw6 e.kids≤24 by omega)]
    have:(if 0 < zt9 e.kids then zt9 e.kids else 0)=zt9 e.kids:=by split <;> omega
    rw [this]
    show some (1+zw6 e.kids,IntKind.i64.wrap (zt9 e.kids+1))=_
    rw [zf6 (by omega) (by omega),show zt9 e.kids+1=1+zt9 e.kids by omega]
   ·rw [if_neg hh,if_neg (by omega)]
theorem zcq5 (e:Expr):zm8 e=some (if fitE e=true then zn0 e else 0):=by
 unfold zm8 zn1
 have p:=zS2 e
 rw [zcG9 _ e (Nat.lt_succ_self _) 1 (by decide) (by decide),Option.bind_some]
 unfold fitE
 by_cases c:1+zr7 e≤5∧zn0 e≤24
 ·rw [if_pos c]
  simp only [show ¬ 24 < zn0 e by omega,show zr7 e≤4 by omega,c.2,decide_true,decide_false,Bool.and_self,Bool.false_eq_true,if_true,if_false]
 ·rw [if_neg c]
  have:(decide (zr7 e≤4)&&decide (zn0 e≤24))=false:=by rw [Bool.eq_false_iff]; simp; omega
  rw [this]
  rfl
def zaL2 (a:Atom):List Atom→Option Bool
 | []=>none
 | x :: l=>if a=x then some true else if (a.name.toList == x.name.toList)=true then some false else zaL2 a l
def zbt5 (a:Atom) (l:List Atom):Int×List Atom :=
 match zaL2 a l with
 | some true=>(0,l)
 | some false=>(13,l)
 | none=>if l.length=8 then (4,l) else (0,l++[a])
def zbQ7 (a:Atom) (l:List Atom):Option (List Atom):=if (zbt5 a l).1=0 then some (zbt5 a l).2 else none
def zas1:List Atom→List Atom→Option (List Atom)
 | [],l=>some l
 | a :: az,l=>(zbQ7 a l).bind (zas1 az)
theorem zbQ8:∀ (x y l:List Atom),zas1 (x++y) l=(zas1 x l).bind (zas1 y)
 | [],y,l=>rfl
 | a :: x,y,l=>by
  simp only [List.cons_append,zas1]
  cases zbQ7 a l with
  | none=>rfl
  | some l'=>exact zbQ8 x y l'
theorem zdc6 {a:Atom} {l:List Atom} (h:l.length≤8):(zbt5 a l).2.length≤8:=by
 unfold zbt5
 split
 ·exact h
 ·exact h
 ·split
  ·exact h
  ·simp; omega
theorem zby9:∀ {x l r:List Atom},l.length≤8→zas1 x l=some r→r.length≤8
 | [],l,r,h,e=>by cases e; exact h
 | a :: x,l,r,h,e=>by
  simp only [zas1] at e
  unfold zbQ7 at e
  split at e
  ·exact zby9 (zdc6 h) e
  ·cases e
theorem zdm7 (a:Atom) (l:List Atom) (h:l.length≤8):zf5 a l=some (zbt5 a l):=by
 unfold zf5
 have hw:∀ (t:List Atom) (i:Nat),walk (fun _ x (_:Unit)=>if a=x then some (.inr (Sum.inr ((0:Int),l))) else if (a.name.toList == x.name.toList)=true then some (.inr (Sum.inr ((13:Int),l))) else some (.inl ())) (fun _=>Sum.inl (β:=Int×List Atom) ()) t i () =
   some (match zaL2 a t with|some true=>.inr (0,l)|some false=>.inr (13,l)|none=>.inl ()):=by
  intro t
  induction t with
  | nil=>intro i; rfl
  | cons x t ih =>
   intro i
   simp only [walk,zaL2]
   by_cases c:a=x
   ·simp only [c,if_true]
   ·by_cases c2:(a.name.toList == x.name.toList)=true
    ·simp only [c,c2,if_true,if_false]
    ·simp only [c,c2,if_false]; exact ih (i+1)
 have key:=zak3 (body:=zS6 a l) l Atom.zero (fun i (_:Unit)=>(i:Int))
  (fun _ x (_:Unit)=>if a=x then some (.inr (Sum.inr ((0:Int),l))) else if (a.name.toList == x.name.toList)=true then some (.inr (Sum.inr ((13:Int),l))) else some (.inl ())) (fun _=>Sum.inl (β:=Int×List Atom) ())
  (fun i s hi=>by
   unfold zS6
   rw [if_pos (by simpa using hi),gdp (by omega),zc4 i (by omega)]
   simp only [Int.toNat_natCast,decide_eq_true_eq]
   repeat' split
   all_goals rfl)
  (fun s=>by unfold zS6; simp) ()
 rw [show (0:Int)=(fun (i:Nat) (_:Unit)=>(i:Int)) 0 () from rfl,key,hw,Option.bind_some]
 unfold zbt5
 cases zaL2 a l with
 | none =>
  simp only
  unfold zao2
  by_cases c:l.length=8
  ·rw [if_pos (by simp [c]),if_pos c]
  ·rw [if_neg (by simp; omega),if_neg c,gdp (by omega)]
 | some b=>cases b <;> rfl
def zai9 (e:Expr) (l:List Atom):Option (List Atom):=if okE e=true then zas1 (zW8 e) l else none
def zbD1 (ks:List Expr) (l:List Atom):Option (List Atom):=if okL ks=true then zas1 (zG5 ks) l else none
theorem zcz6 (k:Expr) (ks:List Expr) (l:List Atom):zbD1 (k :: ks) l=(zai9 k l).bind (zbD1 ks):=by
 unfold zbD1 zai9
 simp only [okL,zG5,zbQ8]
 cases okE k
 ·simp
 ·simp only [Bool.true_and,if_true]
  cases zas1 (zW8 k) l with
  | none=>simp
  | some r=>simp only [Option.bind_some]
theorem zch6 (a:Atom):zi1 a=some (zW0 a.name&&zax5 a.amount):=by
 unfold zi1
 rw [zba1,Option.bind_some]
 congr 2
theorem zbD2 (F:Expr→List Atom→Option (Bool×List Atom)):∀ (ks:List Expr),(∀ k ∈ ks,∀ l,l.length≤8→∃ r,F k l=some (match zai9 k l with|some l'=>(true,l')|none=>(false,r))) →
  ∀ (i:Nat) (l:List Atom),l.length≤8→∃ r,walk (fun _ k (s:List Atom)=>(F k s).bind fun v=>if (!v.1)=true then some (.inr (Sum.inr (false,v.2))) else some (.inl v.2)) (fun s=>Sum.inl (β:=Bool×List Atom) s) ks i l =
   some (match zbD1 ks l with|some l'=>.inl l'|none=>.inr (false,r))
 | [],_,i,l,hl=>⟨[],by simp [walk,zbD1,okL,zG5,zas1]⟩
 | k :: ks,hF,i,l,hl=>by
  obtain ⟨r,e⟩:=hF k (.head _) l hl
  rw [zcz6]
  cases hp:zai9 k l with
  | none =>
   rw [hp] at e
   refine ⟨r,?_⟩
   simp only [walk,e,Option.bind_some,Option.bind_none,Bool.not_false,if_true]
  | some l' =>
   rw [hp] at e
   have hl':l'.length≤8:=by
    unfold zai9 at hp
    split at hp
    ·exact zby9 hl hp
    ·cases hp
   obtain ⟨r2,e2⟩:=zbD2 F ks (fun x hx=>hF x (.tail _ hx)) (i+1) l' hl'
   refine ⟨r2,?_⟩
   simp only [walk,e,Option.bind_some,Bool.not_true,Bool.false_eq_true,if_false,e2]
theorem zdc7 {e:Expr} {l l':List Atom} (hl:l.length≤8) (hp:zai9 e l=some l'):l'.length≤8:=by
 unfold zai9 at hp
 split at hp
 ·exact zby9 hl hp
 ·cases hp
theorem zcq6:∀ (n:Nat) (e:Expr),_root_.SizeOf.sizeOf e < n→zn0 e≤24→∀ l,l.length≤8→∃ r,zw0 n e l=some (match zai9 e l with|some l'=>(true,l')|none=>(false,r))
 | 0,_,h,_,_,_=>by omega
 | n+1,e,h,hn,l,hl=>by
  show ∃ r,zP9 (zw0 n) e l=_
  unfold zP9
  have p4:=zC0 e.kids
  have hne:=zH7 e
  by_cases c:e.kids.length=0
  ·rw [if_pos (by simpa using c),zch6]
   have hp:zai9 e l=if e.k=0∧zW0 e.atom.name=true∧zax5 e.atom.amount=true then zbQ7 e.atom l else none:=by
    unfold zai9
    rw [zch5,zas0,if_pos c,if_pos c]
    simp only [zas1,Bool.and_eq_true,decide_eq_true_eq,and_assoc]
    split
    ·cases zbQ7 e.atom l <;> rfl
    ·rfl
   rw [hp]
   by_cases c1:e.k=0
   ·simp only [c1,decide_true,if_true,Option.bind_some,Bool.true_and,true_and]
    by_cases c2:zW0 e.atom.name=true∧zax5 e.atom.amount=true
    ·simp only [c2.1,c2.2,Bool.and_self,and_self,if_true,zdm7 e.atom l hl,Option.bind_some,Bool.true_and]
     refine ⟨(zbt5 e.atom l).2,?_⟩
     unfold zbQ7
     by_cases c3:(zbt5 e.atom l).1=0
     ·simp only [c3,decide_true,if_true]
     ·simp only [c3,decide_false,if_false]
    ·have:(zW0 e.atom.name&&zax5 e.atom.amount)=false:=by rw [Bool.eq_false_iff]; simpa using c2
     simp only [this,c2,Bool.false_eq_true,if_false,Bool.false_and]
     exact ⟨l,rfl⟩
   ·simp only [c1,decide_false,Bool.false_eq_true,if_false,Option.bind_some,Bool.false_and,false_and]
    exact ⟨l,rfl⟩
  ·rw [if_neg (by simpa using c)]
   have hp:zai9 e l=if 1≤e.k∧e.k≤(e.kids.length:Int)∧e.atom=Atom.zero then zbD1 e.kids l else none:=by
    unfold zai9 zbD1
    rw [zch5,zas0,if_neg c,if_neg c]
    by_cases q1:1≤e.k <;> by_cases q2:e.k≤(e.kids.length:Int) <;> by_cases q3:e.atom=Atom.zero <;> simp [q1,q2,q3]
   rw [hp]
   by_cases c1:1≤e.k∧e.k≤(e.kids.length:Int)∧e.atom=Atom.zero
   ·rw [if_pos c1,if_neg (by simp [c1.2.2]; omega)]
    have hF:∀ k ∈ e.kids,∀ l,l.length≤8→∃ r,zw0 n k l=some (match zai9 k l with|some l'=>(true,l')|none=>(false,r)):=by
     intro k hk l hl
     refine zcq6 n k (zah6 h hk) ?_ l hl
     have:∀ (ks:List Expr),k ∈ ks→zn0 k≤zw6 ks:=by
      intro ks
      induction ks with
      | nil=>intro h; cases h
      | cons x ks ih =>
       intro h
       rw [zaa3]
       have p1:=zS2 x
       have p2:=zC0 ks
       rcases List.mem_cons.1 h with rfl|h
       ·omega
       ·have:=ih h; omega
     have:=this e.kids hk
     omega
    have key:=zC3 (body:=zM1 (zw0 n) e) e.kids Expr.zero (fun i (s:List Atom)=>((i:Int),s))
     (fun _ k (s:List Atom)=>(zw0 n k s).bind fun v=>if (!v.1)=true then some (.inr (Sum.inr (false,v.2))) else some (.inl v.2)) (fun s=>Sum.inl (β:=Bool×List Atom) s)
     (fun i s=>s.length≤8) (fun i s hi hs=>by
      obtain ⟨r,er⟩:=hF _ (zj8 (z:=Expr.zero) hi) s hs
      refine ⟨?_,fun s' hs'=>?_⟩
      ·unfold zM1
       simp only
       rw [if_pos (by simpa using hi),gdp (by omega)]
       simp only [Int.toNat_natCast,er,Option.bind_some,zc4 i (show i < 4611686018427387904 by omega)]
       cases zai9 (e.kids.getD i Expr.zero) s <;> rfl
      ·rw [er,Option.bind_some] at hs'
       cases hq:zai9 (e.kids.getD i Expr.zero) s with
       | none=>rw [hq] at hs'; simp at hs'
       | some l' =>
        rw [hq] at hs'
        simp only [Bool.not_true,Bool.false_eq_true,if_false,Option.some.injEq,Sum.inl.injEq] at hs'
        subst hs'
        exact zdc7 hs hq)
     (fun s hs=>by unfold zM1; simp) l hl
    rw [show ((0,l):Int×List Atom)=(fun (i:Nat) (s:List Atom)=>((i:Int),s)) 0 l from rfl,key]
    obtain ⟨r,er⟩:=zbD2 (zw0 n) e.kids hF 0 l hl
    rw [er,Option.bind_some]
    refine ⟨r,?_⟩
    cases zbD1 e.kids l <;> rfl
   ·rw [if_neg c1,if_pos (by
     simp only [Bool.or_eq_true,decide_eq_true_eq,Bool.not_eq_true',decide_eq_false_iff_not]
     by_cases q:e.atom=Atom.zero
     ·left; have:=mt (fun h:1≤e.k∧e.k≤(e.kids.length:Int)=>(⟨h.1,h.2,q⟩:1≤e.k∧e.k≤(e.kids.length:Int)∧e.atom=Atom.zero)) c1; omega
     ·exact .inr q)]
    exact ⟨l,rfl⟩
theorem zbf6 (e:Expr):zo9 e=some (fitE e&&(zai9 e []).isSome):=by
 unfold zo9
 rw [zdc5,Option.bind_some]
 have p:=zag6 e
 cases hf:fitE e with
 | false=>rfl
 | true =>
  simp only [if_true,show ¬ zr7 e=0 by omega,decide_false,Bool.not_false,Bool.true_and]
  unfold zn2
  have hn:zn0 e≤24:=by unfold fitE at hf; simp at hf; omega
  obtain ⟨r,er⟩:=zcq6 _ e (Nat.lt_succ_self _) hn [] (by simp)
  rw [er,Option.bind_some]
  cases zai9 e [] <;> rfl
def addA (a:Atom) (l:List Atom):List Atom:=if a ∈ l then l else l++[a]
def addS:List Atom→List Atom→List Atom
 | [],l=>l
 | a :: az,l=>addS az (addA a l)
theorem zbQ9:∀ (x y l:List Atom),addS (x++y) l=addS y (addS x l)
 | [],_,_=>rfl
 | a :: x,y,l=>zbQ9 x y (addA a l)
theorem zdc8 (a:Atom) (l:List Atom):∃ t,addA a l=l++t:=by
 unfold addA
 split
 ·exact ⟨[],by simp⟩
 ·exact ⟨[a],rfl⟩
theorem zbR0:∀ (x l:List Atom),∃ t,addS x l=l++t
 | [],l=>⟨[],by simp [addS]⟩
 | a :: x,l=>by
  obtain ⟨t1,h1⟩:=zdc8 a l
  obtain ⟨t2,h2⟩:=zbR0 x (addA a l)
  exact ⟨t1++t2,by rw [addS,h2,h1,List.append_assoc]⟩
theorem zbH4:∀ (x l:List Atom),(addS x l).length≤l.length+x.length
 | [],l=>by simp [addS]
 | a :: x,l=>by
  have h1:=zbH4 x (addA a l)
  have h2:(addA a l).length≤l.length+1:=by unfold addA; split <;> simp
  simp only [addS,List.length_cons]; omega
def dnN (l:List Atom):Prop:=l.Pairwise fun x y=>(x.name.toList == y.name.toList)=false
theorem zcb1 {a:Atom}:∀ {l:List Atom},dnN l→a ∈ l→zaL2 a l=some true
 | x :: l,h,hm=>by
  unfold dnN at h
  rw [List.pairwise_cons] at h
  unfold zaL2
  by_cases c:a=x
  ·rw [if_pos c]
  ·rw [if_neg c]
   rcases List.mem_cons.1 hm with e|hm
   ·exact absurd e c
   ·have:=h.1 a hm
    rw [if_neg (by rw [beq_iff_eq]; intro e; rw [e] at this; simp at this)]
    exact zcb1 h.2 hm
theorem zbo9 {a:Atom}:∀ {l:List Atom},zaL2 a l=none→∀ x ∈ l,(x.name.toList == a.name.toList)=false
 | y :: l,h,x,hx=>by
  unfold zaL2 at h
  split at h
  ·cases h
  ·split at h
   ·cases h
   ·rename_i h1 h2
    rcases List.mem_cons.1 hx with rfl|hx
    ·rw [Bool.eq_false_iff]
     intro e
     rw [beq_iff_eq] at e
     exact h2 (by rw [beq_iff_eq]; exact e.symm)
    ·exact zbo9 h x hx
theorem zbD3 {a:Atom}:∀ {l:List Atom},dnN l→zaL2 a l=some false→a ∉ l∧∃ x ∈ l,(x.name.toList == a.name.toList)=true
 | y :: l,hd,h=>by
  refine ⟨fun hm=>?_,?_⟩
  ·rw [zcb1 hd hm] at h; cases h
  ·unfold zaL2 at h
   split at h
   ·cases h
   ·split at h
    ·rename_i h2
     exact ⟨y,.head _,by rw [beq_iff_eq] at h2 ⊢; exact h2.symm⟩
    ·unfold dnN at hd
     rw [List.pairwise_cons] at hd
     obtain ⟨_,x,hx,e⟩:=zbD3 hd.2 h
     exact ⟨x,.tail _ hx,e⟩
theorem zcz7 {a:Atom} {l:List Atom} (h:zaL2 a l=none):a ∉ l:=fun hm=>by
 have:=zbo9 h a hm
 simp at this
theorem zdm8 {l t:List Atom} (h:dnN (l++t)):dnN l:=(List.pairwise_append.1 h).1
theorem zbp0:∀ (x l:List Atom),l.length≤8→dnN l→((zas1 x l).isSome=true ↔ (addS x l).length≤8∧dnN (addS x l))
 | [],l,h8,hd=>by simp [zas1,addS,h8,hd]
 | a :: x,l,h8,hd=>by
  simp only [zas1,addS]
  unfold zbQ7 zbt5
  cases hn:zaL2 a l with
  | some b =>
   cases b with
   | true =>
    have hm:a ∈ l:=by
     refine Classical.byContradiction fun hm=>?_
     have:∀ l:List Atom,a ∉ l→zaL2 a l≠some true:=by
      intro l
      induction l with
      | nil=>intro _ h; cases h
      | cons y l ih =>
       intro hm h
       unfold zaL2 at h
       rw [if_neg (fun (e:a=y)=>hm (by rw [e]; exact .head _))] at h
       split at h
       ·cases h
       ·exact ih (fun h=>hm (.tail _ h)) h
     exact this l hm hn
    simp only [if_true,Option.bind_some]
    unfold addA
    rw [if_pos hm]
    exact zbp0 x l h8 hd
   | false =>
    obtain ⟨hm,y,hy,e⟩:=zbD3 hd hn
    simp only [show ¬ (13:Int)=0 by decide,if_false,Option.bind_none,Option.isSome_none,Bool.false_eq_true,false_iff]
    rintro ⟨_,h2⟩
    unfold addA at h2
    rw [if_neg hm] at h2
    obtain ⟨t,ht⟩:=zbR0 x (l++[a])
    rw [ht] at h2
    have h3:=(List.pairwise_append.1 (zdm8 h2)).2.2 y hy a (List.mem_singleton.2 rfl)
    rw [e] at h3; cases h3
  | none =>
   have hm:=zcz7 hn
   have ha:addA a l=l++[a]:=by unfold addA; rw [if_neg hm]
   rw [ha]
   by_cases c:l.length=8
   ·simp only [c,if_true,show ¬ (4:Int)=0 by decide,if_false,Option.bind_none,Option.isSome_none,Bool.false_eq_true,false_iff]
    rintro ⟨h1,_⟩
    obtain ⟨t,ht⟩:=zbR0 x (l++[a])
    rw [ht] at h1
    simp at h1
    omega
   ·simp only [c,if_false,if_true,Option.bind_some]
    refine zbp0 x (l++[a]) (by simp; omega) ?_
    unfold dnN
    rw [List.pairwise_append]
    exact ⟨hd,List.pairwise_singleton _ _,fun y hy z hz=>by rw [List.mem_singleton.1 hz]; exact zbo9 hn y hy⟩
def addO (e:Expr) (l:List Atom):Option (List Atom):=if okE e=true then some (addS (zW8 e) l) else none
def addL (ks:List Expr) (l:List Atom):Option (List Atom):=if okL ks=true then some (addS (zG5 ks) l) else none
theorem zcN8 (k:Expr) (ks:List Expr) (l:List Atom):addL (k :: ks) l=(addO k l).bind (addL ks):=by
 unfold addL addO
 simp only [okL,zG5,zbQ9]
 cases okE k <;> simp
def bad1 (r:Nat⊕(Bool×List Atom)):Prop:=match r with|.inl _=>True|.inr v=>v.1=false
def got1 (F:Option (Nat⊕(Bool×List Atom))) (o:Option (List Atom)):Prop:=match o with|some l=>F=some (.inr (true,l))|none=>∃ r,F=some r∧bad1 r
theorem zcN9 (a:Atom) (l:List Atom) {X:Type} (x:X) {body:Int→Option (Int⊕(Unit⊕X))} (hl:l.length < 4611686018427387904)
  (hb:∀ i:Nat,i < l.length→body (i:Int)=if l.getD i Atom.zero=a then some (.inr (.inr x)) else some (.inl ((i+1:Nat):Int))) (he:body (l.length:Int)=some (.inr (.inl ()))) :
  zc0 body 0=some (if a ∈ l then .inr x else .inl ()):=by
 have hw:∀ (t:List Atom) (i:Nat),walk (fun _ y (_:Unit)=>if y=a then some (.inr (Sum.inr x)) else some (.inl ())) (fun _=>Sum.inl (β:=X) ()) t i ()=some (if a ∈ t then .inr x else .inl ()):=by
  intro t
  induction t with
  | nil=>intro i; simp [walk]
  | cons y t ih =>
   intro i
   simp only [walk]
   by_cases c:y=a
   ·rw [if_pos c]; simp [c]
   ·rw [if_neg c]
    simp only [ih (i+1),List.mem_cons,show ¬ a=y from fun e=>c e.symm,false_or]
 have key:=zak3 (body:=body) l Atom.zero (fun i (_:Unit)=>(i:Int)) (fun _ y (_:Unit)=>if y=a then some (.inr (Sum.inr x)) else some (.inl ())) (fun _=>Sum.inl (β:=X) ())
  (fun i s hi=>by rw [hb i hi]; split <;> rfl) (fun s=>he) ()
 rw [show (0:Int)=(fun (i:Nat) (_:Unit)=>(i:Int)) 0 () from rfl,key,hw]
theorem zbR1 (F:Expr→List Atom→Option (Nat⊕(Bool×List Atom))) {Y:Type} {B:Nat}:∀ (ks:List Expr),(∀ k ∈ ks,∀ l,(l.length:Int)+zn0 k≤B→got1 (F k l) (addO k l)) →
  ∀ (i:Nat) (l:List Atom),(l.length:Int)+zw6 ks≤B→(match addL ks l with
   | some l'=>walk (fun _ k (s:List Atom)=>(F k s).bind fun v=>match v with|.inl v=>some (.inr (Sum.inr (Sum.inl s.length)))|.inr v=>if (!v.1)=true then some (.inr (Sum.inr (.inl s.length))) else some (.inl v.2)) (fun s=>Sum.inl (β:=Nat⊕Y) s) ks i l=some (.inl l')
   | none=>∃ r,walk (fun _ k (s:List Atom)=>(F k s).bind fun v=>match v with|.inl v=>some (.inr (Sum.inr (Sum.inl s.length)))|.inr v=>if (!v.1)=true then some (.inr (Sum.inr (.inl s.length))) else some (.inl v.2)) (fun s=>Sum.inl (β:=Nat⊕Y) s) ks i l=some (.inr (.inl r)))
 | [],_,i,l,hl=>by simp [walk,addL,okL,zG5,addS]
 | k :: ks,hF,i,l,hl=>by
  rw [zaa3] at hl
  have p1:=zC0 ks
  have e:=hF k (.head _) l (by omega)
  rw [zcN8]
  cases hp:addO k l with
  | none =>
   rw [hp] at e
   obtain ⟨r,er,hb⟩:=e
   simp only [Option.bind_none]
   refine ⟨l.length,?_⟩
   simp only [walk,er,Option.bind_some]
   cases r with
   | inl r=>rfl
   | inr v =>
    have hv:v.1=false:=hb
    simp only [hv,Bool.not_false,if_true]
  | some l' =>
   rw [hp] at e
   have e':F k l=some (.inr (true,l')):=e
   have hl':(l'.length:Int)≤l.length+zn0 k:=by
    unfold addO at hp
    split at hp
    ·cases hp
     have h1:=zbH4 (zW8 k) l
     have h2:=zbo8 k
     omega
    ·cases hp
   have e2:=zbR1 (Y:=Y) F ks (fun x hx=>hF x (.tail _ hx)) (i+1) l' (by omega)
   simp only [walk,e',Option.bind_some,Bool.not_true,Bool.false_eq_true,if_false]
   exact e2
theorem zaH9 {e k:Expr} (hk:k ∈ e.kids):zn0 k+1≤zn0 e:=by
 have:∀ (ks:List Expr),k ∈ ks→zn0 k≤zw6 ks:=by
  intro ks
  induction ks with
  | nil=>intro h; cases h
  | cons x ks ih =>
   intro h
   rw [zaa3]
   have p1:=zS2 x
   have p2:=zC0 ks
   rcases List.mem_cons.1 h with rfl|h
   ·omega
   ·have:=ih h; omega
 have:=this e.kids hk
 rw [zH7 e]; omega
theorem zbf7 {e:Expr} (c:e.kids.length=0):okE e=true ↔ e.k=0∧zW0 e.atom.name=true∧zax5 e.atom.amount=true:=by
 rw [zch5,if_pos c]; simp [and_assoc]
theorem zbf8 {e:Expr} (c:¬ e.kids.length=0):okE e=true ↔ (1≤e.k∧e.k≤(e.kids.length:Int)∧e.atom=Atom.zero)∧okL e.kids=true:=by
 rw [zch5,if_neg c]; simp [and_assoc]
theorem zbz0 {e:Expr} (c:e.kids.length=0) (l:List Atom):addO e l=if e.k=0∧zW0 e.atom.name=true∧zax5 e.atom.amount=true then some (addA e.atom l) else none:=by
 unfold addO
 rw [zas0,if_pos c]
 simp only [zbf7 c]
 rfl
theorem zcb2 {e:Expr} (c:¬ e.kids.length=0) (l:List Atom):addO e l=if 1≤e.k∧e.k≤(e.kids.length:Int)∧e.atom=Atom.zero then addL e.kids l else none:=by
 unfold addO addL
 rw [zas0,if_neg c]
 simp only [zbf8 c]
 by_cases c1:1≤e.k∧e.k≤(e.kids.length:Int)∧e.atom=Atom.zero <;> simp only [c1,true_and,false_and,if_true,if_false,and_self]
theorem zdc9:∀ (n:Nat) (e:Expr),_root_.SizeOf.sizeOf e < n→∀ l,(l.length:Int)+zn0 e≤100→got1 (zA6 n e l) (addO e l)
 | 0,_,h,_,_=>by omega
 | n+1,e,h,l,hl=>by
  show got1 (zy7 (zA6 n) e l) _
  unfold zy7
  have p4:=zC0 e.kids
  have hne:=zH7 e
  by_cases c:e.kids.length=0
  ·rw [if_pos (by simpa using c),zbz0 c]
   by_cases c1:e.k=0
   ·simp only [c1,decide_true,if_true,zaB3,Option.bind_some,Bool.not_true,Bool.false_or,true_and]
    by_cases c2:zW0 e.atom.name=true∧zax5 e.atom.amount=true
    ·rw [if_pos c2,if_neg (by have:=c2.2; unfold zax5 at this; simp [c2.1,this])]
     rw [zcN9 e.atom l (x:=Sum.inr (true,l)) (by omega) (fun i hi=>by
      unfold zai5
      rw [if_pos (by simpa using hi),gdp (by omega),zc4 i (by omega)]
      simp only [Int.toNat_natCast,decide_eq_true_eq]) (by unfold zai5; simp),Option.bind_some]
     unfold addA got1
     by_cases c3:e.atom ∈ l
     ·simp only [c3,if_true]
     ·simp only [c3,if_false]
      unfold zaw6
      rw [gdp (by omega)]
    ·rw [if_neg c2,if_pos (by
      have:¬ (zW0 e.atom.name=true∧zr2 e.atom.amount=true):=c2
      simp only [Bool.or_eq_true,Bool.not_eq_true']
      cases h1:zW0 e.atom.name <;> cases h2:zr2 e.atom.amount <;> simp_all)]
     exact ⟨_,rfl,rfl⟩
   ·simp only [c1,decide_false,Bool.false_eq_true,if_false,Option.bind_some,Bool.not_false,Bool.true_or,if_true,false_and]
    exact ⟨_,rfl,rfl⟩
  ·rw [if_neg (by simpa using c),zcb2 c]
   by_cases c1:1≤e.k∧e.k≤(e.kids.length:Int)∧e.atom=Atom.zero
   ·rw [if_pos c1,if_neg (by simp [c1.2.2]; omega)]
    have hF:∀ k ∈ e.kids,∀ l,(l.length:Int)+zn0 k≤(100:Nat)→got1 (zA6 n k l) (addO k l):=fun k hk l hl=>zdc9 n k (zah6 h hk) l hl
    have key:=zC3 (body:=zZ3 (zA6 n) e) e.kids Expr.zero (fun i (s:List Atom)=>((i:Int),s))
     (fun _ k (s:List Atom)=>(zA6 n k s).bind fun v=>match v with|.inl v=>some (.inr (Sum.inr (Sum.inl s.length)))|.inr v=>if (!v.1)=true then some (.inr (Sum.inr (.inl s.length))) else some (.inl v.2)) (fun s=>Sum.inl (β:=Nat⊕(Bool×List Atom)) s)
     (fun i s=>True) (fun i s hi hs=>by
      refine ⟨?_,fun s' hs'=>trivial⟩
      unfold zZ3
      simp only
      rw [if_pos (by simpa using hi),gdp (by omega)]
      simp only [Int.toNat_natCast,zc4 i (show i < 4611686018427387904 by omega)]
      cases zA6 n (e.kids.getD i Expr.zero) s with
      | none=>rfl
      | some v =>
       cases v with
       | inl v=>rfl
       | inr v =>
        simp only [Option.bind_some]
        split <;> rfl)
     (fun s hs=>by unfold zZ3; simp) l trivial
    rw [show ((0,l):Int×List Atom)=(fun (i:Nat) (s:List Atom)=>((i:Int),s)) 0 l from rfl,key]
    have er:=zbR1 (zA6 n) (Y:=Bool×List Atom) (B:=100) e.kids hF 0 l (by omega)
    cases ha:addL e.kids l with
    | none =>
     rw [ha] at er
     obtain ⟨r,er⟩:=er
     rw [er,Option.bind_some]
     exact ⟨_,rfl,trivial⟩
    | some l' =>
     rw [ha] at er
     simp only at er
     rw [er,Option.bind_some]
     rfl
   ·rw [if_neg c1,if_pos (by
     simp only [Bool.or_eq_true,decide_eq_true_eq,Bool.not_eq_true',decide_eq_false_iff_not]
     by_cases q:e.atom=Atom.zero
     ·left; have:=mt (fun h:1≤e.k∧e.k≤(e.kids.length:Int)=>(⟨h.1,h.2,q⟩:1≤e.k∧e.k≤(e.kids.length:Int)∧e.atom=Atom.zero)) c1; omega
     ·exact .inr q)]
    exact ⟨_,rfl,rfl⟩
def bad0 (r:Nat⊕(List Atom×Bool)):Prop:=match r with|.inl _=>True|.inr v=>v.2=false
theorem zcH0 (e:Expr) (hl:zn0 e≤50):match addO e [] with|some l=>zu4 e=some (.inr (l,true))|none=>∃ r,zu4 e=some r∧bad0 r:=by
 unfold zu4
 show match addO e [] with|some l=>zL0 _ e=some (.inr (l,true))|none=>∃ r,zL0 _ e=some r∧bad0 r
 unfold zL0
 have p4:=zC0 e.kids
 have hne:=zH7 e
 by_cases c:e.kids.length=0
 ·rw [if_pos (by simpa using c),zbz0 c]
  by_cases c1:e.k=0
  ·simp only [c1,decide_true,if_true,zaB3,Option.bind_some,Bool.not_true,Bool.false_or,true_and]
   by_cases c2:zW0 e.atom.name=true∧zax5 e.atom.amount=true
   ·rw [if_pos c2,if_neg (by have:=c2.2; unfold zax5 at this; simp [c2.1,this])]
    rw [zg1]
    unfold zam6
    rfl
   ·rw [if_neg c2,if_pos (by
     have:¬ (zW0 e.atom.name=true∧zr2 e.atom.amount=true):=c2
     simp only [Bool.or_eq_true,Bool.not_eq_true']
     cases h1:zW0 e.atom.name <;> cases h2:zr2 e.atom.amount <;> simp_all)]
    exact ⟨_,rfl,rfl⟩
  ·simp only [c1,decide_false,Bool.false_eq_true,if_false,Option.bind_some,Bool.not_false,Bool.true_or,if_true,false_and]
   exact ⟨_,rfl,rfl⟩
 ·rw [if_neg (by simpa using c),zcb2 c]
  by_cases c1:1≤e.k∧e.k≤(e.kids.length:Int)∧e.atom=Atom.zero
  ·rw [if_pos c1,if_neg (by simp [c1.2.2]; omega)]
   have hF:∀ k ∈ e.kids,∀ l,(l.length:Int)+zn0 k≤(100:Nat)→got1 (zp2 k l) (addO k l):=fun k hk l hl=>zdc9 _ k (Nat.lt_succ_self _) l hl
   have key:=zC3 (body:=zU0 e) e.kids Expr.zero (fun i (s:List Atom)=>((i:Int),s))
    (fun _ k (s:List Atom)=>(zp2 k s).bind fun v=>match v with|.inl v=>some (.inr (Sum.inr (Sum.inl s.length)))|.inr v=>if (!v.1)=true then some (.inr (Sum.inr (.inl s.length))) else some (.inl v.2)) (fun s=>Sum.inl (β:=Nat⊕(List Atom×Bool)) s)
    (fun i s=>True) (fun i s hi hs=>by
     refine ⟨?_,fun s' hs'=>trivial⟩
     unfold zU0
     simp only
     rw [if_pos (by simpa using hi),gdp (by omega)]
     simp only [Int.toNat_natCast,zc4 i (show i < 4611686018427387904 by omega)]
     cases zp2 (e.kids.getD i Expr.zero) s with
     | none=>rfl
     | some v =>
      cases v with
      | inl v=>rfl
      | inr v =>
       simp only [Option.bind_some]
       split <;> rfl)
    (fun s hs=>by unfold zU0; simp) [] trivial
   rw [show ((0,[]):Int×List Atom)=(fun (i:Nat) (s:List Atom)=>((i:Int),s)) 0 [] from rfl,key]
   have er:=zbR1 (zp2) (Y:=List Atom×Bool) (B:=100) e.kids hF 0 [] (by simp; omega)
   cases ha:addL e.kids [] with
   | none =>
    rw [ha] at er
    obtain ⟨r,er⟩:=er
    simp only
    rw [er,Option.bind_some]
    exact ⟨_,rfl,trivial⟩
   | some l' =>
    rw [ha] at er
    simp only at er ⊢
    rw [er,Option.bind_some]
    rfl
  ·rw [if_neg c1,if_pos (by
    simp only [Bool.or_eq_true,decide_eq_true_eq,Bool.not_eq_true',decide_eq_false_iff_not]
    by_cases q:e.atom=Atom.zero
    ·left; have:=mt (fun h:1≤e.k∧e.k≤(e.kids.length:Int)=>(⟨h.1,h.2,q⟩:1≤e.k∧e.k≤(e.kids.length:Int)∧e.atom=Atom.zero)) c1; omega
    ·exact .inr q)]
   exact ⟨_,rfl,rfl⟩
def vE (e:Expr):Bool:=fitE e&&(zai9 e []).isSome
theorem zbz1 (e:Expr):(zai9 e []).isSome=true ↔ ∃ l,addO e []=some l∧l.length≤8∧dnN l:=by
 unfold zai9 addO
 by_cases c:okE e=true
 ·rw [if_pos c,if_pos c,zbp0 _ [] (by simp) .nil]
  constructor
  ·exact fun h=>⟨_,rfl,h⟩
  ·rintro ⟨l,e,h⟩
   cases e; exact h
 ·rw [if_neg c,if_neg c]
  simp
theorem zcq7 (v:List Atom×Bool) (i:Nat) (hi:i < v.1.length) (hl:v.1.length≤1000) :
  zc0 (zU1 v (i:Int)) 0=some (if (v.1.take i).any (fun x=>(v.1.getD i Atom.zero).name.toList == x.name.toList)=true then .inr ([],false) else .inl ()):=by
 have hw:∀ (t:List Atom) (j:Nat),walk (fun _ x (_:Unit)=>if ((v.1.getD i Atom.zero).name.toList == x.name.toList)=true then some (.inr (Sum.inr (([]:List Atom),false))) else some (.inl ())) (fun _=>Sum.inl (β:=List Atom×Bool) ()) t j () =
   some (if t.any (fun x=>(v.1.getD i Atom.zero).name.toList == x.name.toList)=true then .inr ([],false) else .inl ()):=by
  intro t
  induction t with
  | nil=>intro j; rfl
  | cons x t ih =>
   intro j
   simp only [walk,List.any_cons]
   by_cases c:((v.1.getD i Atom.zero).name.toList == x.name.toList)=true
   ·simp only [c,if_true,Bool.true_or]
   ·simp only [Bool.not_eq_true] at c
    simp only [c,Bool.false_or,Bool.false_eq_true,if_false]
    exact ih (j+1)
 have hlen:(v.1.take i).length=i:=by rw [List.length_take]; omega
 have key:=zak3 (body:=zU1 v (i:Int)) (v.1.take i) Atom.zero (fun j (_:Unit)=>(j:Int))
  (fun _ x (_:Unit)=>if ((v.1.getD i Atom.zero).name.toList == x.name.toList)=true then some (.inr (Sum.inr (([]:List Atom),false))) else some (.inl ())) (fun _=>Sum.inl (β:=List Atom×Bool) ())
  (fun j s hj=>by
   rw [hlen] at hj
   unfold zU1
   rw [if_pos (by simp; omega),gdp (by omega),gdp (by omega),zc4 j (by omega),zca0 _ _ _ _ hj]
   simp only [Int.toNat_natCast]
   split <;> rfl)
  (fun s=>by unfold zU1; rw [hlen]; simp) ()
 rw [show (0:Int)=(fun (j:Nat) (_:Unit)=>(j:Int)) 0 () from rfl,key,hw]
theorem zbf9 (v:List Atom×Bool) (hl:v.1.length≤1000):(dnN v.1→zc0 (zN6 v) 0=some (.inl ()))∧(¬ dnN v.1→zc0 (zN6 v) 0=some (.inr ([],false))):=by
 have key:=zak3 (body:=zN6 v) v.1 Atom.zero (fun i (_:Unit)=>(i:Int))
  (fun i a (_:Unit)=>if (v.1.take i).any (fun x=>a.name.toList == x.name.toList)=true then some (.inr (Sum.inr (([]:List Atom),false))) else some (.inl ())) (fun _=>Sum.inl (β:=List Atom×Bool) ())
  (fun i s hi=>by
   unfold zN6
   rw [if_pos (by simpa using hi),zcq7 v i hi hl]
   split
   ·rfl
   ·show some _=_
    rw [zc4 i (by omega)]; rfl)
  (fun s=>by unfold zN6; simp) ()
 have hw:∀ (t prev:List Atom),v.1=prev++t→dnN prev→(dnN v.1→walk (fun i a (_:Unit)=>if (v.1.take i).any (fun x=>a.name.toList == x.name.toList)=true then some (.inr (Sum.inr (([]:List Atom),false))) else some (.inl ())) (fun _=>Sum.inl (β:=List Atom×Bool) ()) t prev.length ()=some (.inl ())) ∧
   (¬ dnN v.1→walk (fun i a (_:Unit)=>if (v.1.take i).any (fun x=>a.name.toList == x.name.toList)=true then some (.inr (Sum.inr (([]:List Atom),false))) else some (.inl ())) (fun _=>Sum.inl (β:=List Atom×Bool) ()) t prev.length ()=some (.inr ([],false))):=by
  intro t
  induction t with
  | nil=>intro prev h hd; exact ⟨fun _=>rfl,fun hn=>absurd (by rw [h,List.append_nil]; exact hd) hn⟩
  | cons a t ih =>
   intro prev h hd
   have ht:v.1.take prev.length=prev:=by rw [h,List.take_left']; rfl
   simp only [walk,ht]
   by_cases c:prev.any (fun x=>a.name.toList == x.name.toList)=true
   ·have hn:¬ dnN v.1:=by
     intro hd2
     rw [h] at hd2
     obtain ⟨x,hx,e⟩:=List.any_eq_true.1 c
     have:=(List.pairwise_append.1 hd2).2.2 x hx a (.head _)
     rw [beq_iff_eq] at e
     rw [← e] at this
     simp at this
    exact ⟨fun h=>absurd h hn,fun _=>by rw [if_pos c]⟩
   ·rw [if_neg c]
    have hd3:dnN (prev++[a]):=by
     unfold dnN
     rw [List.pairwise_append]
     refine ⟨hd,List.pairwise_singleton _ _,fun x hx y hy=>?_⟩
     rw [List.mem_singleton.1 hy,Bool.eq_false_iff]
     intro e
     rw [beq_iff_eq] at e
     exact c (List.any_eq_true.2 ⟨x,hx,by rw [beq_iff_eq]; exact e.symm⟩)
    have:=ih (prev++[a]) (by rw [h]; simp) hd3
    rw [show (prev++[a]).length=prev.length+1 by simp] at this
    exact this
 have:=hw v.1 [] rfl .nil
 rw [show (0:Int)=(fun (i:Nat) (_:Unit)=>(i:Int)) 0 () from rfl,key]
 exact this
theorem zW3 (e:Expr):zx3 e=some (vE e):=by
 unfold zx3 zn3
 rw [zcq5,Option.bind_some]
 have p:=zS2 e
 unfold vE
 cases hf:fitE e with
 | false=>rfl
 | true =>
  have hn:zn0 e≤24:=by unfold fitE at hf; simp at hf; omega
  simp only [if_true,show ¬ zn0 e=0 by omega,decide_false,Bool.false_eq_true,if_false,Bool.true_and]
  have ha:=zcH0 e (by omega)
  have hp:=zbz1 e
  cases hadd:addO e [] with
  | none =>
   rw [hadd] at ha hp
   obtain ⟨r,er,hb⟩:=ha
   have hf:(zai9 e []).isSome=false:=by
    rw [Bool.eq_false_iff]; intro h
    obtain ⟨l,e,_⟩:=hp.1 h
    cases e
   rw [er,hf,Option.bind_some]
   cases r with
   | inl r=>rfl
   | inr v =>
    have hv:v.2=false:=hb
    simp only [hv,Bool.not_false,Bool.true_or,if_true,Option.bind_some]
  | some l =>
   rw [hadd] at ha hp
   simp only at ha
   have hl:l.length≤24:=by
    unfold addO at hadd
    split at hadd
    ·cases hadd
     have h1:=zbH4 (zW8 e) []
     have h2:=zbo8 e
     simp at h1
     omega
    ·cases hadd
   rw [ha,Option.bind_some]
   by_cases c:l.length≤8
   ·simp only [Bool.not_true,Bool.false_or,show ¬ (8:Int) < (l.length:Int) by omega,decide_false,Bool.false_eq_true,if_false]
    have ho:=zbf9 (l,true) (by simp only; omega)
    by_cases hd:dnN l
    ·rw [ho.1 hd,hp.2 ⟨l,rfl,c,hd⟩]
     rfl
    ·rw [ho.2 hd]
     have:(zai9 e []).isSome=false:=by
      rw [Bool.eq_false_iff]; intro h
      obtain ⟨l',e',_,h3⟩:=hp.1 h
      cases e'
      exact hd h3
     rw [this]
     rfl
   ·simp only [Bool.not_true,Bool.false_or,show (8:Int) < (l.length:Int) by omega,decide_true,if_true,Option.bind_some]
    have:(zai9 e []).isSome=false:=by
     rw [Bool.eq_false_iff]; intro h
     obtain ⟨l',e',h3,_⟩:=hp.1 h
     cases e'
     exact c h3
    rw [this]
theorem zbp1 (e:Expr):zo9 e=some (vE e):=zbf6 e
theorem zbz2 {t:List Queue} (hl:t.length≤8) (h:∀ q ∈ t,zk0 q=true):zw8 t=some (zC2 t):=by
 rw [← zax4 hl h]; rfl
theorem zcq8 (s:WaitState):zZ9 s=zH6 s:=by
 funext g
 unfold zZ9 zH6
 by_cases c:g < (s.needs.length:Int)
 ·by_cases c0:0≤g
  ·simp only [c,c0,and_self,decide_true,if_true,zm3,zbp1,zW3,zae3,zax2]
   generalize hn:s.needs.getD g.toNat Need.zero=n
   generalize hm:s.needs.getD ((IntKind.i64.wrap (g - 1)).toNat) Need.zero=m
   cases hP:zb6 n.proc
   ·simp
   ·cases hE:vE n.expr
    ·by_cases q1:n.gen < 0 <;> by_cases q2:1073741824 < n.gen <;> simp [q1,q2]
    ·by_cases q1:n.gen < 0
     ·simp [q1]
     ·by_cases q2:1073741824 < n.gen
      ·simp [q1,q2]
      ·by_cases q3:0 < g <;> simp [q1,q2,q3]
  ·simp only [c,c0,false_and,decide_true,if_true,zda5]
 ·simp only [c,decide_false,Bool.false_eq_true,if_false]
def zaT7 (l:List Need) (i:Nat) (n:Need):Bool:=zb6 n.proc&&vE n.expr&&decide (0≤n.gen)&&decide (n.gen≤1073741824)&&(decide (i=0)||decide (cmpP (l.getD (i - 1) Need.zero).proc n.proc < 0))
def zaA2 (l:List Need):Bool:=(List.range l.length).all fun i=>zaT7 l i (l.getD i Need.zero)
def zaL3 (s:WaitState):List Proc:=zbf2 (zC2 s.queues++s.needs.map (·.proc))
def zQ2 (s:WaitState):Bool:=zak9 s.queues&&decide (s.needs.length≤8)&&zaA2 s.needs&&decide ((zaL3 s).length≤8)
theorem zbR2 (s:WaitState) (h8:s.needs.length≤8):zc0 (zH6 s) 0=some (if zaA2 s.needs=true then .inl () else .inr false):=by
 have key:=zG6 (body:=zH6 s) s.needs.length (fun i=>if zaT7 s.needs i (s.needs.getD i Need.zero)=true then none else some (Sum.inr (α:=Unit) false)) (Sum.inl ()) (fun i hi=>by
  unfold zH6
  have c1:(i:Int) < (s.needs.length:Int):=by omega
  have c2:0≤(i:Int):=by omega
  simp only [c1,c2,and_self,decide_true,if_true,zm3,zW3,zax2,Int.toNat_natCast]
  unfold zaT7
  have nd:∀ x:Need,x=x:=fun x=>rfl
  rcases hb (zb6 (s.needs.getD i Need.zero).proc) with hP|hP
  ·rcases hb (vE (s.needs.getD i Need.zero).expr) with hE|hE
   ·by_cases q1:(s.needs.getD i Need.zero).gen < 0
    ·simp [hP,hE,q1,show ¬ 0≤(s.needs.getD i Need.zero).gen by omega,-List.getD_eq_getElem?_getD]
    ·by_cases q2:1073741824 < (s.needs.getD i Need.zero).gen
     ·simp [hP,hE,q1,q2,show ¬ (s.needs.getD i Need.zero).gen≤1073741824 by omega,-List.getD_eq_getElem?_getD]
     ·have q1':0≤(s.needs.getD i Need.zero).gen:=by omega
      have q2':(s.needs.getD i Need.zero).gen≤1073741824:=by omega
      have w2:IntKind.i64.wrap ((i:Int)+1)=(i:Int)+1:=zf6 (by omega) (by omega)
      by_cases q3:i=0
      ·subst q3
       simp only [hP,hE,q1,q2,q1',q2',if_true,Option.bind_some,decide_true,decide_false,Bool.not_true,Bool.not_false,Bool.and_self,Bool.true_and,Bool.or_self,Bool.false_or,Bool.true_or,Int.cast_ofNat_Int,Int.lt_irrefl,Bool.and_false,Bool.false_and,Bool.false_eq_true,false_implies,zm3,if_false]
       rfl
      ·have q4:(0:Int) < (i:Int):=by omega
       have w:IntKind.i64.wrap ((i:Int) - 1)=((i - 1:Nat):Int):=zaz5 i (by omega) (by omega)
       rw [hP,if_pos rfl,Option.bind_some,gdp (by intro _; rw [w]; omega),w,w2]
       simp only [hE,q1,q2,q1',q2',q3,q4,decide_true,decide_false,Bool.not_true,Bool.not_false,Bool.and_self,Bool.true_and,Bool.or_self,Bool.false_or,Int.toNat_natCast,if_true,if_false]
       by_cases q5:cmpP (s.needs.getD (i - 1) Need.zero).proc (s.needs.getD i Need.zero).proc < 0
       ·have q6:¬ 0≤cmpP (s.needs.getD (i - 1) Need.zero).proc (s.needs.getD i Need.zero).proc:=by omega
        simp only [q5,q6,decide_true,decide_false,if_true,Bool.false_eq_true,if_false]
       ·have q6:0≤cmpP (s.needs.getD (i - 1) Need.zero).proc (s.needs.getD i Need.zero).proc:=by omega
        simp only [q5,q6,decide_true,decide_false,if_true,Bool.false_eq_true,if_false]
   ·simp [hP,hE,-List.getD_eq_getElem?_getD]
  ·simp [hP,-List.getD_eq_getElem?_getD])
  (by unfold zH6; simp)
 rw [key,zS1 (fun i=>zaT7 s.needs i (s.needs.getD i Need.zero))]
 unfold zaA2
 rw [List.range_eq_range']
 split <;> rfl
theorem zbg0 (s:WaitState) (hp:zak9 s.queues=true) (h8:s.needs.length≤8):zD0 s=some (zaL3 s):=by
 obtain ⟨h1,h2,_⟩:=(zal0 _).1 hp
 have hq:=zbt2 s.queues h2
 have hs:(zC2 s.queues).length≤200:=by
  have:=zbi3 (s.queues.flatMap zak8)
  unfold zC2; omega
 unfold zD0
 rw [zbz2 h1 h2,Option.bind_some,zaE6 s.needs Need.zero (·.proc) _ (by omega) (by omega) (fun i t hi ht=>by
  unfold zan3
  have h3:0≤(i:Int)∧(i:Int) < (s.needs.length:Int):=by omega
  have h1:t.length+1≤4294967296:=by omega
  simp only [h1,h3.1,h3.2,and_self,zm3,decide_true,if_true,Int.toNat_natCast,zc4 i (show i < 4611686018427387904 by omega)]) (fun t=>by unfold zan3; simp),Option.bind_some]
 unfold zaz3
 rw [zar9 _ (by simp; omega)]; rfl
theorem zaL4 (s:WaitState) (hp:zak9 s.queues=true) (h8:s.needs.length≤8):zv5 s=some (zaL3 s):=by
 obtain ⟨h1,h2,_⟩:=(zal0 _).1 hp
 have hq:=zbt2 s.queues h2
 have hs:(zC2 s.queues).length≤200:=by
  have:=zbi3 (s.queues.flatMap zak8)
  unfold zC2; omega
 unfold zv5
 rw [zbQ3 h1 h2,Option.bind_some,gdp (by omega),zaE6 s.needs Need.zero (·.proc) _ (by omega) (by omega) (fun i t hi ht=>by
  unfold zZ6
  have h3:0≤(i:Int)∧(i:Int) < (s.needs.length:Int):=by omega
  have h1:t.length+1≤4294967296:=by omega
  simp only [h1,h3.1,h3.2,and_self,zm3,decide_true,if_true,Int.toNat_natCast,zc4 i (show i < 4611686018427387904 by omega)]) (fun t=>by unfold zZ6; simp),Option.bind_some]
 unfold zak0
 rw [zar8 _ (by simp; omega)]; rfl
theorem zbR3 (s:WaitState):zT4 s=some (zQ2 s):=by
 unfold zT4 zQ2
 rw [zbf5,Option.bind_some]
 cases hp:zak9 s.queues with
 | false=>rfl
 | true =>
  by_cases h8:s.needs.length≤8
  ·simp only [Bool.not_true,Bool.false_or,show ¬ (8:Int) < (s.needs.length:Int) by omega,decide_false,Bool.false_eq_true,if_false,h8,decide_true,Bool.true_and]
   rw [zbR2 s h8,Option.bind_some]
   cases zaA2 s.needs with
   | false=>rfl
   | true =>
    simp only [if_true,Bool.true_and]
    unfold zaz4
    rw [zbg0 s hp h8,Option.bind_some]
    congr 1
    rw [Bool.eq_iff_iff]; simp; omega
  ·simp only [Bool.not_true,Bool.false_or,show (8:Int) < (s.needs.length:Int) by omega,decide_true,if_true,h8,decide_false,Bool.and_false,Bool.false_and]
theorem zW4 (s:WaitState):zx4 s=some (zQ2 s):=by
 unfold zx4 zQ2
 by_cases h8:s.needs.length≤8
 ·by_cases hq:s.queues.length≤8
  ·simp only [show ¬ (8:Int) < (s.needs.length:Int) by omega,show ¬ (8:Int) < (s.queues.length:Int) by omega,decide_false,Bool.or_self,Bool.false_eq_true,if_false,h8,decide_true,Bool.and_true]
   rw [zbQ1 s.queues hq (fun i hi=>by
    unfold zaa1
    have h3:0≤(i:Int)∧(i:Int) < (s.queues.length:Int):=by omega
    simp only [h3.1,h3.2,and_self,zm3,decide_true,if_true,Int.toNat_natCast,zbO2,Option.bind_some,zc4 i (show i < 4611686018427387904 by omega)]
    by_cases e0:i=0
    ·subst e0
     rw [zg7 (by simp)]
     cases zk0 (s.queues.getD 0 Queue.zero) <;> simp
    ·rw [zaz5 i (by omega) (by omega),zg7 (by intro _; omega)]
     simp only [Int.toNat_natCast,show (0:Int) < (i:Int) by omega,decide_true,Bool.true_and,e0,false_or]
     unfold ltN
     rcases hb (zk0 (s.queues.getD i Queue.zero)) with b1|b1 <;> rcases hb (Op.bytesLess (s.queues.getD (i - 1) Queue.zero).resource.name.toList (s.queues.getD i Queue.zero).resource.name.toList) with b2|b2 <;> simp [b1,b2,-List.getD_eq_getElem?_getD]) (by unfold zaa1; simp)]
   unfold zak9
   simp only [hq,decide_true,Bool.true_and]
   cases ha:ascW s.queues none with
   | false=>rfl
   | true =>
    have hp:zak9 s.queues=true:=by unfold zak9; simp [hq,ha]
    simp only [if_true,Option.bind_some,Bool.true_and]
    unfold zaa0
    rw [zcq8,zbR2 s h8,Option.bind_some]
    cases zaA2 s.needs with
    | false=>rfl
    | true =>
     simp only [if_true,Bool.true_and]
     unfold zak1
     rw [zaL4 s hp h8,Option.bind_some]
     congr 1
     rw [Bool.eq_iff_iff]; simp; omega
  ·have:zak9 s.queues=false:=by unfold zak9; simp [hq]
   simp only [show (8:Int) < (s.queues.length:Int) by omega,decide_true,Bool.true_or,if_true,this,Bool.false_and]
 ·simp only [show (8:Int) < (s.needs.length:Int) by omega,decide_true,Bool.or_true,if_true,h8,decide_false,Bool.and_false,Bool.false_and]
def zT7 (l:List Int):Prop:=∀ x ∈ l,0≤x∧x < 256
theorem zdd0 (c:Int) (h0:0≤c) (h1:c < 256):(zO0 .and .u8 c 128=0) ↔ c < 128:=by
 have k:(List.range 256).all (fun n=>decide ((zO0 .and .u8 (n:Int) 128=0) ↔ (n:Int) < 128))=true:=by kernel_rfl
 obtain ⟨n,rfl⟩:=Int.eq_ofNat_of_zero_le h0
 have:=List.all_eq_true.1 k n (List.mem_range.2 (by omega))
 simpa using this
structure Src (b:List Int):Prop where
 bytes:zT7 b
 len:b.length≤9223372036854775807
end Ab
end Go.Proofs.YtcggeefhhegeoaaGreatDoor
