import Derived.Test.YtebopmkhhppfaaaGreatDoorHoldG
namespace Go.Proofs.YtebopmkhhppfaaaGreatDoor
namespace Ab
set_option linter.unusedVariables false
set_option linter.unusedSimpArgs false
theorem zbN8 {α:Type} {P:α→Prop} {l:List α} {z:α}:(∀ i,i < l.length→P (l.getD i z)) ↔ ∀ w ∈ l,P w:=by
 constructor
 ·intro h w hw
  obtain ⟨i,hi,rfl⟩:=List.mem_iff_getElem.1 hw
  have:=h i hi
  rwa [List.getD_eq_getElem?_getD,List.getElem?_eq_getElem hi] at this
 ·intro h i hi
  refine h _ ?_
  rw [List.getD_eq_getElem?_getD,List.getElem?_eq_getElem hi]
  exact List.getElem_mem hi
theorem zbu6 (h:Hold) (t:List Hold) (p:Proc):getH (h :: t) p=if h.proc=p then h.amount else getH t p:=by
 unfold getH
 rw [List.find?_cons]
 by_cases e:h.proc=p <;> simp [e]
theorem zcu7 {l:List Hold} {p:Proc} (h:getH l p≠Amount.zero):(⟨p,getH l p⟩:Hold) ∈ l:=by
 induction l with
 | nil=>exact absurd rfl h
 | cons x t ih =>
  rw [zbu6] at h ⊢
  by_cases e:x.proc=p
  ·rw [if_pos e]; subst e; exact .head _
  ·rw [if_neg e] at h ⊢; exact .tail _ (ih h)
theorem zbE4 {l:List Hold} {p:Proc} (h:∀ x ∈ l,x.proc≠p):zD6 p l=l:=List.filter_eq_self.2 fun x hx=>by simpa using h x hx
def Asc (l:List Hold):Prop:=l.Pairwise fun a b=>ltP a.proc b.proc
theorem zbR4 {r:Resource} {l:List Hold} (h:zY6 r l=true):Asc l:=((zaO1 r l).1 h).2.2.1.asc
theorem zfa2 {h:Hold} {t:List Hold} (k:Asc (h :: t)):∀ x ∈ t,x.proc≠h.proc:=fun x hx e=>by
 have:=(List.pairwise_cons.1 k).1 x hx
 rw [e] at this; exact zaq8 _ this
theorem zcu8 {l:List Hold} (h:Asc l) {p:Proc} (hp:getH l p≠Amount.zero):l.Perm (⟨p,getH l p⟩ :: zD6 p l):=by
 induction l with
 | nil=>exact absurd rfl hp
 | cons x t ih =>
  rw [zbu6] at hp ⊢
  rw [zaG7]
  by_cases e:x.proc=p
  ·rw [if_pos e,if_pos e,zbE4 (by rw [← e]; exact zfa2 h)]
   subst e; exact List.Perm.refl _
  ·rw [if_neg e] at hp
   rw [if_neg e,if_neg e]
   exact ((ih (List.pairwise_cons.1 h).2 hp).cons x).trans (List.Perm.swap _ _ _)
theorem zbR5 {l:List Hold} (h:Asc l) {p:Proc} (hp:getH l p≠Amount.zero):(zD6 p l).length+1=l.length:=by
 have:=(zcu8 h hp).length_eq
 simpa using this.symm
theorem zar2 (a:Amount):zg8 a=true ↔ a=Amount.zero:=by unfold zg8; simp
theorem zcu9 (a:Amount):zg8 a=false ↔ a≠Amount.zero:=by rw [← Bool.not_eq_true,zar2]
structure SoundP (q:Queue):Prop where
 res:resV q.resource=true
 hv:zY6 q.resource q.holds=true
 cl:q.converts.length≤8
 cn:(q.converts.map (·.proc)).Nodup
 cg:∀ w ∈ q.converts,getH q.holds w.proc≠Amount.zero∧zb7 q.resource w.amount=true∧covA q.resource w.amount (getH q.holds w.proc)=true∧w.amount≠getH q.holds w.proc∧w.priority=0∧w.passed=0
 wv:zah6 q.waits=true
 wl:q.holds.length+q.waits.length≤8
 wg:∀ w ∈ q.waits,zb7 q.resource w.amount=true∧getH q.holds w.proc=Amount.zero
 gen:0≤q.gen∧q.gen≤1073741824
theorem zbI8 (q:Queue):zav4 q=true ↔ SoundP q:=by
 have hc:cvOk q=true ↔ q.converts.length≤8∧(q.converts.map (·.proc)).Nodup∧∀ w ∈ q.converts,getH q.holds w.proc≠Amount.zero∧zb7 q.resource w.amount=true∧covA q.resource w.amount (getH q.holds w.proc)=true∧w.amount≠getH q.holds w.proc∧w.priority=0∧w.passed=0:=by
  unfold cvOk
  rw [← zaO0,← zbN8 (z:=Wait.zero)]
  simp only [Bool.and_eq_true,decide_eq_true_eq,List.all_eq_true,List.mem_range,cvI,Bool.not_eq_true',zcu9,decide_eq_false_iff_not]
  constructor
  ·rintro ⟨h1,h2⟩; exact ⟨h1,fun i hi=>(h2 i hi).1,fun i hi=>(h2 i hi).2⟩
  ·rintro ⟨h1,h2,h3⟩; exact ⟨h1,fun i hi=>⟨h2 i hi,h3 i hi⟩⟩
 have hw:wtOk q=true ↔ zah6 q.waits=true∧q.holds.length+q.waits.length≤8∧∀ w ∈ q.waits,zb7 q.resource w.amount=true∧getH q.holds w.proc=Amount.zero:=by
  unfold wtOk
  rw [← zbN8 (z:=Wait.zero)]
  simp only [Bool.and_eq_true,decide_eq_true_eq,List.all_eq_true,List.mem_range,wtI,zar2]
 unfold zav4
 simp only [Bool.and_eq_true,hc,hw,decide_eq_true_eq]
 constructor
 ·rintro ⟨h1,h2,⟨h3,h4,h5⟩,⟨h6,h7,h8⟩,h9⟩; exact ⟨h1,h2,h3,h4,h5,h6,h7,h8,h9⟩
 ·rintro ⟨h1,h2,h3,h4,h5,h6,h7,h8,h9⟩; exact ⟨h1,h2,⟨h3,h4,h5⟩,⟨h6,h7,h8⟩,h9⟩
theorem zba3 (q:Queue):zp3 q=true ↔ SoundP q∧canQ q=false:=by
 unfold zp3
 rw [Bool.and_eq_true,zbI8]
 show SoundP q∧(!canQ q)=true ↔ _
 rw [Bool.not_eq_true']
end Ab
end Go.Proofs.YtebopmkhhppfaaaGreatDoor
namespace Go.Proofs.YtebopmkhhppfaaaGreatDoor
namespace Ab
set_option linter.unusedVariables false
set_option linter.unusedSimpArgs false
end Ab
end Go.Proofs.YtebopmkhhppfaaaGreatDoor
namespace Go.Proofs.YtebopmkhhppfaaaGreatDoor
namespace Ab
set_option linter.unusedVariables false
set_option linter.unusedSimpArgs false
end Ab
end Go.Proofs.YtebopmkhhppfaaaGreatDoor
namespace Go.Proofs.YtebopmkhhppfaaaGreatDoor
namespace Ab
set_option linter.unusedVariables false
set_option linter.unusedSimpArgs false
def ordQ (q:Queue):List Wait:=q.converts++q.waits
structure Later (q x:Queue) (p:Proc) (g:List Hold):Prop where
 hold:∀ o,o≠p→getH x.holds o=getH q.holds o
 ord:((ordQ x).map (·.proc)).filter (fun o=>!decide (o=p))=(ordQ q).map (·.proc)
 len:g.length≤1
end Ab
end Go.Proofs.YtebopmkhhppfaaaGreatDoor
namespace Go.Proofs.YtebopmkhhppfaaaGreatDoor
namespace Ab
set_option linter.unusedVariables false
set_option linter.unusedSimpArgs false
theorem zar3:∀ {a b:List Proc},a.Pairwise ltP→b.Pairwise ltP→(∀ x,x ∈ a ↔ x ∈ b)→a=b
 | [],b,_,_,h=>by
  cases b with
  | nil=>rfl
  | cons y b=>exact absurd ((h y).2 (.head _)) (by simp)
 | x :: a,[],_,_,h=>absurd ((h x).1 (.head _)) (by simp)
 | x :: a,y :: b,ha,hb,h=>by
  rw [List.pairwise_cons] at ha hb
  have hxy:x=y:=by
   rcases List.mem_cons.1 ((h x).1 (.head _)) with e|hx
   ·exact e
   ·rcases List.mem_cons.1 ((h y).2 (.head _)) with e|hy
    ·exact e.symm
    ·exact absurd (zax7 (ha.1 y hy) (hb.1 x hx)) (zaq8 x)
  subst hxy
  congr 1
  refine zar3 ha.2 hb.2 fun z=>?_
  have hz:=h z
  constructor
  ·intro hm
   rcases List.mem_cons.1 (hz.1 (.tail _ hm)) with e|hm'
   ·subst e; exact absurd (ha.1 z hm) (zaq8 z)
   ·exact hm'
  ·intro hm
   rcases List.mem_cons.1 (hz.2 (.tail _ hm)) with e|hm'
   ·subst e; exact absurd (hb.1 z hm) (zaq8 z)
   ·exact hm'
def zam0 (p:Proc):List Proc→List Proc
 | []=>[p]
 | x :: t=>if p=x then x :: t else if ltP p x then p :: x :: t else x :: zam0 p t
theorem zaj6 {p x:Proc}:∀ {l:List Proc},x ∈ zam0 p l ↔ x=p∨x ∈ l
 | []=>by simp [zam0]
 | y :: t=>by
  simp only [zam0]
  split
  ·rename_i h; subst h
   simp only [List.mem_cons]
   constructor
   ·intro h; exact .inr h
   ·rintro (rfl|h)
    ·exact .inl rfl
    ·exact h
  ·split
   ·simp only [List.mem_cons]
   ·simp only [List.mem_cons,zaj6 (l:=t)]
    constructor
    ·rintro (h|h|h)
     ·exact .inr (.inl h)
     ·exact .inl h
     ·exact .inr (.inr h)
    ·rintro (h|h|h)
     ·exact .inr (.inl h)
     ·exact .inl h
     ·exact .inr (.inr h)
theorem zaj7 {p:Proc}:∀ {l:List Proc},l.Pairwise ltP→(zam0 p l).Pairwise ltP
 | [],_=>by simp [zam0]
 | y :: t,h=>by
  simp only [zam0]
  split
  ·exact h
  ·rename_i hne
   rw [List.pairwise_cons] at h
   split
   ·rename_i hlt
    rw [List.pairwise_cons]
    refine ⟨fun x hx=>?_,List.pairwise_cons.2 h⟩
    rcases List.mem_cons.1 hx with rfl|hx
    ·exact hlt
    ·exact zax7 hlt (h.1 x hx)
   ·rename_i hlt
    rw [List.pairwise_cons]
    refine ⟨fun x hx=>?_,zaj7 h.2⟩
    rcases zaj6.1 hx with rfl|hx
    ·rcases zao9 hne with h1|h1
     ·exact absurd h1 hlt
     ·exact h1
    ·exact h.1 x hx
theorem zbI9 {p:Proc}:∀ {l:List Proc},l.Pairwise ltP→p ∈ l→zam0 p l=l:=fun hl hp =>
 zar3 (zaj7 hl) hl fun x=>by
  rw [zaj6]
  constructor
  ·rintro (rfl|h)
   ·exact hp
   ·exact h
  ·exact .inr
def zaH3 (l:List Proc):List Proc:=l.foldl (fun s p=>zam0 p s) []
theorem zaH4:∀ (l s:List Proc),s.Pairwise ltP→(l.foldl (fun s p=>zam0 p s) s).Pairwise ltP∧∀ x,x ∈ l.foldl (fun s p=>zam0 p s) s ↔ x ∈ s∨x ∈ l
 | [],s,h=>⟨h,fun x=>by simp⟩
 | p :: l,s,h=>by
  obtain ⟨h1,h2⟩:=zaH4 l (zam0 p s) (zaj7 h)
  refine ⟨h1,fun x=>?_⟩
  rw [List.foldl_cons,h2,zaj6,List.mem_cons]
  constructor
  ·rintro ((h|h)|h)
   ·exact .inr (.inl h)
   ·exact .inl h
   ·exact .inr (.inr h)
  ·rintro (h|h|h)
   ·exact .inl (.inr h)
   ·exact .inl (.inl h)
   ·exact .inr h
theorem zbu7 (l:List Proc):(zaH3 l).Pairwise ltP:=(zaH4 l [] .nil).1
theorem zbu8 {l:List Proc} {x:Proc}:x ∈ zaH3 l ↔ x ∈ l:=by
 have:=(zaH4 l [] .nil).2 x
 unfold zaH3
 simpa using this
theorem zbz6 {l s:List Proc} (h:s.Pairwise ltP) (hm:∀ x,x ∈ s ↔ x ∈ l):s=zaH3 l:=zar3 h (zbu7 l) fun x=>by rw [hm,zbu8]
theorem zbu9 {l:List Proc} (h:l.Pairwise ltP):l.Nodup:=h.imp fun hab e=>by subst e; exact zaq8 _ hab
theorem zaJ3 (l:List Proc):(zaH3 l).length≤l.length:=List.Nodup.length_le_of_subset (zbu9 (zbu7 l)) fun x hx=>zbu8.1 hx
def dst:List Proc→List Proc
 | []=>[]
 | [x]=>[x]
 | x :: y :: t=>if x=y then dst (y :: t) else x :: dst (y :: t)
theorem zbd1:∀ {l:List Proc} {x:Proc},x ∈ dst l ↔ x ∈ l
 | [],x=>by simp [dst]
 | [y],x=>by simp [dst]
 | y :: z :: t,x=>by
  simp only [dst]
  split
  ·rename_i h; subst h
   rw [zbd1 (l:=y :: t)]
   simp
  ·rw [List.mem_cons,zbd1 (l:=z :: t),List.mem_cons (b:=y)]
theorem zbz7:∀ {l:List Proc},l.Pairwise (fun x y=>¬ ltP y x)→(dst l).Pairwise ltP
 | [],_=>by simp [dst]
 | [x],_=>by simp [dst]
 | x :: y :: t,h=>by
  simp only [dst]
  rw [List.pairwise_cons] at h
  split
  ·exact zbz7 h.2
  ·rename_i hne
   rw [List.pairwise_cons]
   refine ⟨fun z hz=>?_,zbz7 h.2⟩
   have hz:=zbd1.1 hz
   by_cases e:x=z
   ·subst e
    rcases List.mem_cons.1 hz with e|hz'
    ·exact absurd e hne
    ·have h2:=(List.pairwise_cons.1 h.2).1 x hz'
     rcases zao9 hne with h3|h3
     ·exact absurd h3 h2
     ·exact absurd h3 (h.1 y (.head _))
   ·rcases zao9 e with h1|h1
    ·exact h1
    ·exact absurd h1 (h.1 z hz)
theorem zbR6 {l s:List Proc} (h:s.Pairwise fun x y=>¬ ltP y x) (hm:∀ x,x ∈ s ↔ x ∈ l):dst s=zaH3 l:=zbz6 (zbz7 h) fun x=>by rw [zbd1,hm]
theorem zbE5:∀ (l:List Proc) (x y:Proc),dst (l++[x,y])=if x=y then dst (l++[x]) else dst (l++[x])++[y]
 | [],x,y=>by
  by_cases h:x=y <;> simp [dst,h]
 | [a],x,y=>by
  by_cases h:x=y
  ·subst h; by_cases h2:a=x <;> simp [dst,h2]
  ·by_cases h2:a=x
   ·subst h2; simp [dst,h]
   ·simp [dst,h,h2]
 | a :: b :: l,x,y=>by
  have ih:=zbE5 (b :: l) x y
  simp only [List.cons_append,dst] at ih ⊢
  rw [ih]
  by_cases h:x=y <;> by_cases h2:a=b <;> simp [h,h2]
theorem zbJ0 (x y:Proc):¬ ltP y x∨¬ ltP x y:=by
 by_cases h:ltP y x
 ·exact .inr (zaW6 h)
 ·exact .inl h
theorem zbz8 (l:List Proc):(l.mergeSort fun x y=>!decide (ltP y x)).Pairwise fun x y=>¬ ltP y x:=by
 have:=List.pairwise_mergeSort (le:=fun x y=>!decide (ltP y x)) (fun a b c h1 h2=>by
  simp only [Bool.not_eq_true',decide_eq_false_iff_not] at h1 h2 ⊢
  intro h3
  by_cases e:b=a
  ·subst e; exact h2 h3
  ·rcases zao9 e with h4|h4
   ·exact h1 h4
   ·by_cases e2:b=c
    ·subst e2; exact h1 h3
    ·rcases zao9 e2 with h5|h5
     ·exact zaW6 (zax7 h3 h4) h5
     ·exact h2 h5) (fun a b=>by
  rcases zbJ0 a b with h|h
  ·simp [h]
  ·simp [h]) l
 exact this.imp fun h=>by simpa using h
end Ab
end Go.Proofs.YtebopmkhhppfaaaGreatDoor
namespace Go.Proofs.YtebopmkhhppfaaaGreatDoor
namespace Ab
set_option linter.unusedVariables false
set_option linter.unusedSimpArgs false
theorem zbE6 (l:List Proc) (hl:l.length≤4294967296):zc6 l=some (l.mergeSort fun x y=>!decide (ltP y x)):=by
 unfold zc6
 rw [zg6 hl]
 congr 2
theorem zcv0 {l:List Proc} {i:Nat} (h:i+1 < l.length):l.take (i+2)=l.take i++[l.getD i Proc.zero,l.getD (i+1) Proc.zero]:=by
 rw [List.take_succ_eq_append_getElem (by omega),List.take_succ_eq_append_getElem (by omega),List.append_assoc]
 congr 1
 rw [List.getD_eq_getElem?_getD,List.getElem?_eq_getElem (by omega),List.getD_eq_getElem?_getD,List.getElem?_eq_getElem h]
 rfl
theorem zbl6 {l:List Proc} {i:Nat} (h:i < l.length):l.take (i+1)=l.take i++[l.getD i Proc.zero]:=by
 rw [List.take_succ_eq_append_getElem h]
 congr 1
 rw [List.getD_eq_getElem?_getD,List.getElem?_eq_getElem h]
 rfl
theorem zbl7 {l:List Proc} {i:Nat} (h:i+1 < l.length):dst (l.take (i+2))=if l.getD i Proc.zero=l.getD (i+1) Proc.zero then dst (l.take (i+1)) else dst (l.take (i+1))++[l.getD (i+1) Proc.zero]:=by
 rw [zcv0 h,zbE5,← zbl6 (by omega)]
theorem zaS9 {l m:List Proc} {i j:Nat} (h:l.drop i=m.drop i) (hij:i≤j):l.getD j Proc.zero=m.getD j Proc.zero:=by
 have e:∀ x:List Proc,x.getD j Proc.zero=(x.drop i).getD (j - i) Proc.zero:=fun x=>by
  rw [List.getD_eq_getElem?_getD,List.getD_eq_getElem?_getD,List.getElem?_drop,show i+(j - i)=j by omega]
 rw [e l,e m,h]
theorem zbr0 (a:List Proc) (g:Nat) (hg:1≤g) (hgl:g < a.length) (hl:a.length≤1000000) (he:a.getD g Proc.zero=a.getD (g - 1) Proc.zero) (hd:dst (a.take g)=a.take g) :
  ∃ x,zb4 (zn3 a g) ((g:Int),1,a)=some x∧∃ k:Nat,x.1=(k:Int)∧x.2.length=a.length∧k≤a.length∧x.2.take k=dst a:=by
 refine zaQ9 (fun s=>∃ k k2:Nat,s.1=(k:Int)∧s.2.1=(k2:Int)∧s.2.2.length=a.length∧1≤k2∧g+k2≤a.length∧k+1≤g+k2∧s.2.2.take k=dst (a.take (g+k2))∧s.2.2.drop (g+k2 - 1)=a.drop (g+k2 - 1)) (fun s=>(a.length - s.2.1.toNat)) _ ?_ _ ?_
 ·rintro ⟨k,k2,s⟩ ⟨kn,k2n,h1,h2,h3,h4,h5,h6,h7,h8⟩
  simp only at h1 h2 h3 h7 h8
  subst h1; subst h2
  unfold zn3
  by_cases hlt:g+k2n < a.length
  ·left
   have w:IntKind.i64.wrap ((k2n:Int) - 1)=((k2n - 1:Nat):Int):=by rw [zc4 (by omega) (by omega)]; omega
   have w2:IntKind.i64.wrap ((k2n:Int)+1)=((k2n+1:Nat):Int):=by rw [zc4 (by omega) (by omega)]; omega
   have w3:IntKind.i64.wrap ((kn:Int)+1)=((kn+1:Nat):Int):=by rw [zc4 (by omega) (by omega)]; omega
   have r1:s.getD (g+k2n) Proc.zero=a.getD (g+k2n) Proc.zero:=zaS9 h8 (by omega)
   have r2:s.getD (g+(k2n - 1)) Proc.zero=a.getD (g+(k2n - 1)) Proc.zero:=zaS9 h8 (by omega)
   have hdt:=zbl7 (l:=a) (i:=g+(k2n - 1)) (by omega)
   rw [show g+(k2n - 1)+2=g+(k2n+1) by omega,show g+(k2n - 1)+1=g+k2n by omega] at hdt
   simp only [Int.toNat_natCast,w,w2,w3]
   rw [if_pos (by simp; omega),zg6 (by omega),zg6 (by omega),r1,r2]
   by_cases hne:a.getD (g+k2n) Proc.zero=a.getD (g+(k2n - 1)) Proc.zero
   ·refine ⟨((kn:Int),((k2n+1:Nat):Int),s),by rw [if_neg (by simp only [hne,decide_true,Bool.not_true,Bool.false_eq_true,not_false_eq_true])],⟨kn,k2n+1,rfl,rfl,h3,by omega,by omega,by omega,?_,?_⟩,by simp only [Int.toNat_natCast]; omega⟩
    ·simp only
     rw [h7,hdt,if_pos hne.symm]
    ·simp only
     rw [show g+(k2n+1) - 1=(g+k2n - 1)+1 by omega,← List.drop_drop,← List.drop_drop,h8]
   ·rw [if_pos (by simpa using hne),zg6 (by omega),zg6 (by omega)]
    refine ⟨(((kn+1:Nat):Int),((k2n+1:Nat):Int),s.set kn (a.getD (g+k2n) Proc.zero)),rfl,⟨kn+1,k2n+1,rfl,rfl,by simp [h3],by omega,by omega,by omega,?_,?_⟩,by simp only [Int.toNat_natCast]; omega⟩
    ·simp only
     rw [hdt,if_neg (fun e=>hne e.symm),← h7,zbl6 (by rw [List.length_set]; omega),List.take_set_of_le (by omega),zbp1 _ _ _ _ (by omega)]
    ·simp only
     rw [List.drop_set_of_lt (by omega),show g+(k2n+1) - 1=(g+k2n - 1)+1 by omega,← List.drop_drop,← List.drop_drop,h8]
  ·right
   refine ⟨((kn:Int),s),by simp only [Int.toNat_natCast]; rw [if_neg (by simp; omega)],kn,rfl,h3,by omega,?_⟩
   simp only
   rw [h7,List.take_of_length_le (by omega)]
 ·refine ⟨g,1,rfl,rfl,rfl,by omega,by omega,by omega,?_,rfl⟩
  simp only
  have hdt:=zbl7 (l:=a) (i:=g - 1) (by omega)
  rw [show g - 1+2=g+1 by omega,show g - 1+1=g by omega,if_pos he.symm,hd] at hdt
  exact hdt.symm
theorem zbJ1 (a:List Proc) (hl:a.length≤1000000):∃ r,zc9 a=some (dst a,r):=by
 unfold zc9
 by_cases h2:a.length < 2
 ·rw [if_pos (by simp; omega)]
  refine ⟨a,?_⟩
  have:dst a=a:=by
   match a,h2 with
   | [],_=>rfl
   | [x],_=>rfl
   | x :: y :: t,h=>simp at h; omega
  rw [this]
 ·rw [if_neg (by simp; omega)]
  obtain ⟨x,hx,hp⟩:=zaQ9 (body:=zn4 a) (fun g=>∃ n:Nat,g=(n:Int)∧1≤n∧n≤a.length∧dst (a.take n)=a.take n) (fun g=>a.length - g.toNat)
   (fun x=>match x with|.inl _=>dst a=a|.inr z=>z.1=dst a) (by
    rintro g ⟨n,rfl,h1,h3,h4⟩
    unfold zn4
    by_cases hlt:n < a.length
    ·have w:IntKind.i64.wrap ((n:Int) - 1)=((n - 1:Nat):Int):=by rw [zc4 (by omega) (by omega)]; omega
     have w2:IntKind.i64.wrap ((n:Int)+1)=((n+1:Nat):Int):=by rw [zc4 (by omega) (by omega)]; omega
     rw [if_pos (by simp; omega),zg6 (by omega),w,w2,zg6 (by omega)]
     simp only [Int.toNat_natCast]
     by_cases he:a.getD n Proc.zero=a.getD (n - 1) Proc.zero
     ·right
      obtain ⟨x,hx,k,hk1,hk2,hk3,hk4⟩:=zbr0 a n h1 hlt hl he h4
      rw [if_pos (decide_eq_true he),zg6 (by omega),hx]
      obtain ⟨x1,x2⟩:=x
      simp only at hk1 hk2 hk4
      subst hk1
      rw [Option.bind_some]
      unfold zn2
      simp only [Int.toNat_natCast]
      rw [zg6 (by omega),zg6 (by omega)]
      refine ⟨_,rfl,?_⟩
      simp only
      rw [List.drop_zero,List.append_assoc,List.take_append_of_le_length (by simp; omega),List.take_take,Nat.min_self,hk4]
     ·left
      refine ⟨((n+1:Nat):Int),by rw [if_neg (by simpa using he)],⟨n+1,rfl,by omega,by omega,?_⟩,by simp only [Int.toNat_natCast]; omega⟩
      have hdt:=zbl7 (l:=a) (i:=n - 1) (by omega)
      rw [show n - 1+2=n+1 by omega,show n - 1+1=n by omega,if_neg (fun e=>he e.symm),h4,← zbl6 hlt] at hdt
      exact hdt
    ·right
     refine ⟨.inl (),by rw [if_neg (by simp; omega)],?_⟩
     simp only
     rw [List.take_of_length_le (by omega)] at h4
     exact h4) 1 ⟨1,rfl,by omega,by omega,by
      match a,h2 with
      | x :: t,_=>simp [dst]⟩
  rw [hx]
  cases x with
  | inl u =>
   simp only at hp
   refine ⟨a,?_⟩
   rw [hp]; rfl
  | inr z =>
   simp only at hp
   refine ⟨z.2,?_⟩
   rw [← hp]; rfl
theorem zae3 (l:List Proc) (hl:l.length≤1000000):zj7 l=some (zaH3 l):=by
 unfold zj7
 rw [zg6 (by omega),zbE6 l (by omega),Option.bind_some]
 obtain ⟨r,h⟩:=zbJ1 (l.mergeSort fun x y=>!decide (ltP y x)) (by rw [List.length_mergeSort]; exact hl)
 rw [h]
 simp only [Option.bind_some]
 rw [zbR6 (zbz8 l) fun x=>List.mem_mergeSort]
theorem zaX4 (l:List Proc) (p:Proc) (hl:l.length≤1000000):zr9 l p=some (decide (p ∈ l)):=by
 unfold zr9
 have key:=zai5 (body:=zM7 l p) l Proc.zero (fun i (_:Unit)=>(i:Int)) (fun _ x _=>some (if x=p then .inr (Sum.inr true) else .inl ())) (fun _=>Sum.inl (β:=Bool) ())
  (fun i s hi=>by
   unfold zM7
   have h3:0≤(i:Int)∧(i:Int) < (l.length:Int):=by omega
   simp only [h3.1,h3.2,and_self,zx3,decide_true,if_true,Int.toNat_natCast,ze6 i (by omega),Option.map_some,decide_eq_true_eq]
   split <;> rfl)
  (fun s=>by unfold zM7; simp) ()
 rw [show (0:Int)=(fun (i:Nat) (_:Unit)=>(i:Int)) 0 () from rfl,key]
 have fold:∀ (l:List Proc) (i:Nat),walk (fun _ x (_:Unit)=>some (if x=p then .inr (Sum.inr true) else .inl ())) (fun _=>Sum.inl (β:=Bool) ()) l i ()=some (if p ∈ l then .inr true else .inl ()):=by
  intro l
  induction l with
  | nil=>intro i; simp [walk]
  | cons x t ih =>
   intro i
   simp only [walk]
   by_cases e:x=p
   ·subst e; simp
   ·simp only [e,if_false,List.mem_cons,fun h:p=x=>e h.symm,false_or]
    rw [ih]
    have:¬ p=x:=fun h=>e h.symm
    simp [this]
 rw [fold]
 by_cases hp:p ∈ l <;> simp [hp,zT3]
theorem zbl8 (q:Queue) (h1:q.converts.length≤1000) (h2:q.waits.length≤1000):zu7 q=some ((ordQ q).map (·.proc)):=by
 unfold zu7
 rw [zbl4 q (by omega) (by omega),Option.bind_some]
 have hl:(q.converts++q.waits).length≤2000:=by rw [List.length_append]; omega
 show _=some ((q.converts++q.waits).map (·.proc))
 generalize q.converts++q.waits=l at hl
 have key:=zv5 (body:=zR4 l) l Wait.zero (fun i (s:List Proc)=>((i:Int),s)) (fun i h s=>some (.inl (zaw4 s (some h.proc)))) (fun s=>s) (fun i s=>s.length≤i)
  (fun i s hi hs=>by
   refine ⟨?_,fun s' h=>?_⟩
   ·unfold zR4
    have h1:s.length+1≤4294967296:=by omega
    have h3:0≤(i:Int)∧(i:Int) < (l.length:Int):=by omega
    simp only [h1,h3.1,h3.2,and_self,zx3,decide_true,if_true,Int.toNat_natCast,ze6 i (by omega),Option.map_some,wmap,zaw4]
   ·simp only [Option.some.injEq,Sum.inl.injEq] at h; subst h; simp [zaw4]; omega)
  (fun s hs=>by unfold zR4; simp) [] (by simp)
 rw [show ((0,[]):Int×List Proc)=(fun (i:Nat) (s:List Proc)=>((i:Int),s)) 0 [] from rfl,key,zaw5 (fun h:Wait=>some h.proc)]
 simp [zZ1]
theorem zaO2 (l:List Hold) (hl:l.length≤1000000):zm5 l=some (l.map (·.proc)):=by
 have e:zm5 l=zO0 l:=rfl
 rw [e]; exact zcu6 l hl
def zae4 (q:Queue):List Proc:=zaH3 (q.holds.map (·.proc)++(ordQ q).map (·.proc))
theorem zbl9 (q:Queue) (h0:q.holds.length≤1000) (h1:q.converts.length≤1000) (h2:q.waits.length≤1000):zu8 q=some (zae4 q):=by
 unfold zu8 zae4
 have hl:(ordQ q).length≤2000:=by unfold ordQ; rw [List.length_append]; omega
 rw [zaO2 _ (by omega),Option.bind_some,zbl8 q h1 h2,Option.bind_some,zg6 (by simp; omega),zae3 _ (by simp; omega)]
 rfl
theorem SoundP.lens {q:Queue} (h:SoundP q):q.holds.length≤8∧q.converts.length≤8∧q.waits.length≤8∧zcu4 q≤16:=by
 have:=h.cl; have:=h.wl; have:=zar1 h.hv
 unfold zcu4; omega
end Ab
end Go.Proofs.YtebopmkhhppfaaaGreatDoor
namespace Go.Proofs.YtebopmkhhppfaaaGreatDoor
namespace Ab
set_option linter.unusedVariables false
set_option linter.unusedSimpArgs false
end Ab
end Go.Proofs.YtebopmkhhppfaaaGreatDoor
namespace Go.Proofs.YtebopmkhhppfaaaGreatDoor
namespace Ab
set_option linter.unusedVariables false
set_option linter.unusedSimpArgs false
theorem zfa3 (n m:Int) (h1:1≤m) (h2:m≤1000000):zT6 n m=some (n % m):=by
 unfold zT6
 rw [if_neg (by simp; omega),gdp (by omega)]
 have hlt:n.tmod m < m:=Int.tmod_lt_of_pos n (by omega)
 have hgt:-m < n.tmod m:=by have:=Int.lt_tmod_of_pos n (show 0 < m by omega); omega
 have e:n % m=if n.tmod m < 0 then n.tmod m+m else n.tmod m:=by
  rw [Int.emod_eq_tmod]
  by_cases h3:0≤n∨m ∣ n
  ·rw [if_pos h3]
   have:0≤n.tmod m:=by
    rcases h3 with h|h
    ·exact Int.tmod_nonneg m h
    ·rw [Int.tmod_eq_zero_of_dvd h]; omega
   rw [if_neg (by omega)]; omega
  ·rw [if_neg h3]
   simp only [not_or] at h3
   have h5:0≤(-n).tmod m:=Int.tmod_nonneg m (by omega)
   rw [Int.neg_tmod] at h5
   have h6:n.tmod m≠0:=fun h=>h3.2 (Int.dvd_of_tmod_eq_zero h)
   rw [if_pos (by omega)]; omega
 rw [e]
 by_cases hc:n.tmod m < 0
 ·rw [if_pos (by simpa using hc),if_pos hc,zc4 (by omega) (by omega)]
 ·rw [if_neg (by simpa using hc),if_neg hc]
def zeE9 (n:Int):Proc:=⟨(n % 8) % 4,1,1+(n % 8) / 4⟩
theorem zbz9 (n:Int):zL0 n=some (zeE9 n):=by
 unfold zL0 zeE9
 rw [zfa3 n 8 (by decide) (by decide),Option.bind_some]
 have h1:0≤n % 8:=Int.emod_nonneg _ (by decide)
 have h2:n % 8 < 8:=Int.emod_lt_of_pos _ (by decide)
 rw [Int.tmod_eq_emod_of_nonneg h1,Int.tdiv_eq_ediv_of_nonneg h1,zc4 (x:=n % 8 / 4) (by omega) (by omega),zc4 (by omega) (by omega)]
end Ab
end Go.Proofs.YtebopmkhhppfaaaGreatDoor
namespace Go.Proofs.YtebopmkhhppfaaaGreatDoor
namespace Ab
set_option linter.unusedVariables false
set_option linter.unusedSimpArgs false
theorem zao4 {q:Queue} (h:zp3 q=true):q.holds.length≤8∧q.converts.length≤8∧q.waits.length≤8∧zcu4 q≤16:=((zba3 q).1 h).1.lens
end Ab
end Go.Proofs.YtebopmkhhppfaaaGreatDoor
namespace Go.Proofs.YtebopmkhhppfaaaGreatDoor
namespace Ab
set_option linter.unusedVariables false
set_option linter.unusedSimpArgs false
theorem zbE7:∀ {x y z:List UInt8},Op.bytesLess x y=true→Op.bytesLess y z=true→Op.bytesLess x z=true
 | x,[],z,h1,_=>by cases x <;> simp [Op.bytesLess] at h1
 | x,b :: y,[],_,h2=>by simp [Op.bytesLess] at h2
 | [],b :: y,c :: z,_,_=>by simp [Op.bytesLess]
 | a :: x,b :: y,c :: z,h1,h2=>by
  simp only [Op.bytesLess,Bool.or_eq_true,Bool.and_eq_true,decide_eq_true_eq,beq_iff_eq] at h1 h2 ⊢
  rcases h1 with h1|⟨rfl,h1⟩
  ·rcases h2 with h2|⟨rfl,h2⟩
   ·exact .inl (UInt8.lt_trans h1 h2)
   ·exact .inl h1
  ·rcases h2 with h2|⟨rfl,h2⟩
   ·exact .inl h2
   ·exact .inr ⟨rfl,zbE7 h1 h2⟩
def ltN (a b:ByteArray):Prop:=Op.bytesLess a.toList b.toList=true
instance (a b:ByteArray):Decidable (ltN a b):=by unfold ltN; infer_instance
theorem zbR7 {a b c:ByteArray} (h:ltN a b) (k:ltN b c):ltN a c:=zbE7 h k
def AscN (t:List Queue):Prop:=t.Pairwise fun a b=>ltN a.resource.name b.resource.name
def ascW:List Queue→Option ByteArray→Bool
 | [],_=>true
 | q :: t,pv=>zp3 q&&((match pv with|none=>true|some n=>decide (ltN n q.resource.name))&&ascW t (some q.resource.name))
theorem zbE8:∀ (t:List Queue) (pv:Option ByteArray),ascW t pv=true ↔ (∀ q ∈ t,zp3 q=true)∧AscN t∧∀ n,pv=some n→∀ q ∈ t,ltN n q.resource.name
 | [],pv=>by
  simp only [ascW,List.not_mem_nil,false_implies,implies_true,and_true,true_and,true_iff]
  exact .nil
 | q :: t,pv=>by
  simp only [ascW,Bool.and_eq_true]
  rw [zbE8 t (some q.resource.name)]
  constructor
  ·rintro ⟨h1,h2,h3,h4,h5⟩
   refine ⟨fun x hx=>?_,List.pairwise_cons.2 ⟨fun x hx=>h5 _ rfl x hx,h4⟩,fun n hn x hx=>?_⟩
   ·rcases List.mem_cons.1 hx with rfl|hx
    ·exact h1
    ·exact h3 x hx
   ·subst hn
    simp only [decide_eq_true_eq] at h2
    rcases List.mem_cons.1 hx with rfl|hx
    ·exact h2
    ·exact zbR7 h2 (h5 _ rfl x hx)
  ·rintro ⟨h1,h2,h3⟩
   have h2':=List.pairwise_cons.1 h2
   refine ⟨h1 q (.head _),?_,fun x hx=>h1 x (.tail _ hx),h2'.2,fun n hn x hx=>by cases hn; exact h2'.1 x hx⟩
   cases pv with
   | none=>rfl
   | some n=>exact decide_eq_true (h3 n rfl q (.head _))
def zah7 (t:List Queue):Bool:=decide (t.length≤8)&&ascW t none
def zar4 (t:List Queue):List Proc:=zaH3 (t.flatMap zae4)
structure ValidT (t:List Queue):Prop where
 len:t.length≤8
 each:∀ q ∈ t,zp3 q=true
 asc:AscN t
 procs:(zar4 t).length≤8
theorem zaO3 (t:List Queue):zah7 t=true ↔ t.length≤8∧(∀ q ∈ t,zp3 q=true)∧AscN t:=by
 unfold zah7
 rw [Bool.and_eq_true,decide_eq_true_eq,zbE8]
 simp
theorem zbR8 {α:Type} (prev t:List α) (z:α) (h:prev≠[]):(prev++t).getD (prev.length - 1) z=prev.getLast h:=by
 have hp:0 < prev.length:=List.length_pos_iff.2 h
 rw [List.getD_eq_getElem?_getD,List.getElem?_append_left (by omega),List.getElem?_eq_getElem (by omega),List.getLast_eq_getElem]; rfl
theorem zbJ2 (t0:List Queue):∀ (t prev:List Queue),t0=prev++t →
  walk (fun i q (_:Unit)=>some (if zp3 q=true∧(i=0∨ltN (t0.getD (i - 1) Queue.zero).resource.name q.resource.name) then Sum.inl () else Sum.inr (Sum.inr (α:=Unit) false))) (fun _=>Sum.inl (β:=Bool) ()) t prev.length () =
   some (if ascW t (prev.getLast?.map (·.resource.name))=true then .inl () else .inr false):=by
 intro t
 induction t with
 | nil=>intro prev _; simp [walk,ascW]
 | cons q t ih =>
  intro prev ht
  simp only [walk]
  have hq:(prev.length=0∨ltN (t0.getD (prev.length - 1) Queue.zero).resource.name q.resource.name) ↔ (match prev.getLast?.map (·.resource.name) with|none=>true|some n=>decide (ltN n q.resource.name))=true:=by
   by_cases hp:prev=[]
   ·subst hp; simp
   ·have h1:=zbR8 prev (q :: t) Queue.zero hp
    rw [ht,h1,List.getLast?_eq_some_getLast hp]
    have:prev.length≠0:=fun e=>hp (List.eq_nil_of_length_eq_zero e)
    simp [this]
  by_cases e:zp3 q=true∧(prev.length=0∨ltN (t0.getD (prev.length - 1) Queue.zero).resource.name q.resource.name)
  ·rw [if_pos e]
   have:=ih (prev++[q]) (by rw [ht]; simp)
   rw [show (prev++[q]).length=prev.length+1 by simp] at this
   simp only
   have h2:ascW (q :: t) (prev.getLast?.map (·.resource.name))=ascW t (some q.resource.name):=by simp only [ascW,e.1,hq.1 e.2,Bool.true_and]
   rw [this,h2]
   simp
  ·rw [if_neg e]
   rw [hq] at e
   have hf:ascW (q :: t) (prev.getLast?.map (·.resource.name))=false:=by
    rw [Bool.eq_false_iff]
    intro hh
    simp only [ascW,Bool.and_eq_true] at hh
    exact e ⟨hh.1,hh.2.1⟩
   rw [hf]; rfl
theorem zbm0 {body:Int→Option (Int⊕(Unit⊕Bool))} (t:List Queue) (hl:t.length≤8)
  (hb:∀ i:Nat,i < t.length→body (i:Int)=some (if zp3 (t.getD i Queue.zero)=true∧(i=0∨ltN (t.getD (i - 1) Queue.zero).resource.name (t.getD i Queue.zero).resource.name) then .inl ((i+1:Nat):Int) else .inr (.inr false)))
  (he:body (t.length:Int)=some (.inr (.inl ()))):zb4 body 0=some (if ascW t none=true then .inl () else .inr false):=by
 have key:=zai5 (body:=body) t Queue.zero (fun i (_:Unit)=>(i:Int)) (fun i q _=>some (if zp3 q=true∧(i=0∨ltN (t.getD (i - 1) Queue.zero).resource.name q.resource.name) then Sum.inl () else Sum.inr (Sum.inr (α:=Unit) false))) (fun _=>Sum.inl (β:=Bool) ())
  (fun i s hi=>by
   rw [hb i hi,Option.map_some]
   split <;> rfl) (fun s=>he) ()
 have:=zbJ2 t t [] rfl
 rw [show (0:Int)=(fun (i:Nat) (_:Unit)=>(i:Int)) 0 () from rfl,key]
 exact this
theorem zaT0 (t:List Queue) (h:∀ q ∈ t,zp3 q=true):(t.flatMap zae4).length≤24 * t.length:=by
 induction t with
 | nil=>simp
 | cons q t ih =>
  have h1:=zao4 (h q (.head _))
  have h2:=zaJ3 (q.holds.map (·.proc)++(ordQ q).map (·.proc))
  have h3:=ih fun x hx=>h x (.tail _ hx)
  have h4:(zae4 q).length≤24:=by
   unfold zae4
   unfold ordQ at *
   simp only [List.length_append,List.length_map] at h2
   omega
  rw [List.flatMap_cons,List.length_append,List.length_cons]; omega
theorem zbm1 {α β X:Type} (f:α→List β) (fin:List β→X):∀ (l:List α) (i:Nat) (s:List β),walk (fun _ a s=>some (.inl (s++f a))) fin l i s=some (fin (s++l.flatMap f))
 | [],i,s=>by simp [walk]
 | a :: l,i,s=>by
  simp only [walk,List.flatMap_cons]
  rw [zbm1 f fin l (i+1),List.append_assoc]
theorem zY7 {α:Type} {l:List α} {i:Nat} {z:α} (h:i < l.length):l.getD i z ∈ l:=by
 rw [List.getD_eq_getElem?_getD,List.getElem?_eq_getElem h]; exact List.getElem_mem h
theorem zbv0 {q:Queue} (h:zp3 q=true):(zae4 q).length≤24:=by
 have:=zaT0 [q] fun x hx=>by rw [List.mem_singleton] at hx; rw [hx]; exact h
 simpa using this
theorem zbm2 {t:List Queue} (hl:t.length≤8) (h:∀ q ∈ t,zp3 q=true):zu9 t=some (zar4 t):=by
 unfold zu9
 have key:=zv5 (body:=zR5 t) t Queue.zero (fun i (s:List Proc)=>((i:Int),s)) (fun _ q s=>some (.inl (s++zae4 q))) (fun s=>s) (fun i s=>s.length≤24 * i)
  (fun i s hi hs=>by
   have hq:=h _ (zY7 (z:=Queue.zero) hi)
   have hql:=zao4 hq
   have hpl:=zbv0 hq
   refine ⟨?_,fun s' h=>?_⟩
   ·unfold zR5
    have h3:0≤(i:Int)∧(i:Int) < (t.length:Int):=by omega
    simp only [h3.1,h3.2,and_self,zx3,decide_true,if_true,Int.toNat_natCast]
    rw [zbl9 _ (by omega) (by omega) (by omega),Option.bind_some,zg6 (by omega),ze6 i (by omega)]
    rfl
   ·simp only [Option.some.injEq,Sum.inl.injEq] at h; subst h; rw [List.length_append]; omega)
  (fun s hs=>by unfold zR5; simp) [] (by simp)
 rw [show ((0,[]):Int×List Proc)=(fun (i:Nat) (s:List Proc)=>((i:Int),s)) 0 [] from rfl,key,zbm1 zae4,List.nil_append,Option.bind_some]
 unfold zZ2
 have:=zaT0 t h
 rw [zae3 _ (by omega)]; rfl
end Ab
end Go.Proofs.YtebopmkhhppfaaaGreatDoor
namespace Go.Proofs.YtebopmkhhppfaaaGreatDoor
namespace Ab
set_option linter.unusedVariables false
set_option linter.unusedSimpArgs false
theorem zaX5 (x:Proc) (s:List Proc) (hs:s.Pairwise ltP) (hx:x ∉ s) (hl:s.length≤1000000):zb4 (zH9) ((s.length:Int),s++[x])=some (zam0 x s):=by
 obtain ⟨r,h1,h2⟩:=zaQ9 (body:=zH9) (fun g=>∃ pre post:List Proc,g=((pre.length:Int),pre++x :: post)∧pre++post=s∧∀ y ∈ post,ltP x y) (fun g=>g.1.toNat) (fun r=>r=zam0 x s) (by
  rintro g ⟨pre,post,rfl,hp,hpost⟩
  have hpl:pre.length+post.length=s.length:=by rw [← hp,List.length_append]
  unfold zH9
  simp only [List.length_append,List.length_cons]
  by_cases h0:pre=[]
  ·right
   subst h0
   refine ⟨_,by rw [zg6 (by simp),zg6 (by simp),if_neg (by simp)],?_⟩
   simp only [List.nil_append] at hp ⊢
   subst hp
   refine zar3 (List.pairwise_cons.2 ⟨hpost,hs⟩) (zaj7 hs) fun y=>?_
   rw [zaj6,List.mem_cons]
  ·obtain ⟨pre',y,rfl⟩:∃ p' y,pre=p'++[y]:=⟨pre.dropLast,pre.getLast h0,(List.dropLast_concat_getLast h0).symm⟩
   have hk:(pre'++[y]).length=pre'.length+1:=by simp
   rw [hk] at hpl ⊢
   have w:IntKind.i64.wrap (((pre'.length+1:Nat):Int) - 1)=(pre'.length:Int):=by rw [zc4 (by omega) (by omega)]; omega
   have e1:(pre'++[y]++x :: post).getD pre'.length Proc.zero=y:=by simp [List.getD_eq_getElem?_getD]
   have e2:(pre'++[y]++x :: post).getD (pre'.length+1) Proc.zero=x:=by simp [List.getD_eq_getElem?_getD]
   have g1:0≤(pre'.length:Int)∧(pre'.length:Int) < ((pre'.length+1+(post.length+1):Nat):Int):=by omega
   have g2:0≤((pre'.length+1:Nat):Int)∧((pre'.length+1:Nat):Int) < ((pre'.length+1+(post.length+1):Nat):Int):=by omega
   have hpos:decide (0 < ((pre'.length+1:Nat):Int))=true:=decide_eq_true (by omega)
   simp only [w,Int.toNat_natCast,e1,e2,hpos,Bool.true_and]
   rw [zg6 (fun _=>g1),zg6 (fun _=>g2)]
   have hlt:decide (0 < zm1 y x)=decide (ltP x y):=by rw [decide_eq_decide]; exact zbk1 y x
   rw [hlt]
   by_cases hxy:ltP x y
   ·left
    rw [if_pos (decide_eq_true hxy),zg6 g1,zg6 g2,zg6 g1,zg6 g2]
    refine ⟨((pre'.length:Int),pre'++x :: (y :: post)),?_,⟨pre',y :: post,rfl,by rw [← hp]; simp,fun z hz=>?_⟩,by simp only [Int.toNat_natCast]; omega⟩
    ·congr 3
     rw [List.append_assoc,List.set_append_right _ _ (Nat.le_refl _),Nat.sub_self,List.set_append_right _ _ (by omega),show pre'.length+1 - pre'.length=1 by omega]
     rfl
    ·rcases List.mem_cons.1 hz with rfl|hz
     ·exact hxy
     ·exact hpost z hz
   ·right
    refine ⟨_,by rw [if_neg (by simpa using hxy)],?_⟩
    have hyx:ltP y x:=by
     rcases zao9 (p:=x) (q:=y) (fun e=>hx (by rw [← hp,e]; simp)) with h|h
     ·exact absurd h hxy
     ·exact h
    rw [← hp] at hs
    obtain ⟨a1,a2,a3⟩:=List.pairwise_append.1 hs
    obtain ⟨b1,b2,b3⟩:=List.pairwise_append.1 a1
    have hpre:∀ z ∈ pre'++[y],ltP z x:=fun z hz=>by
     rcases List.mem_append.1 hz with hz|hz
     ·exact zax7 (b3 z hz y (by simp)) hyx
     ·rw [List.mem_singleton] at hz; rw [hz]; exact hyx
    rw [← hp]
    refine zar3 (List.pairwise_append.2 ⟨a1,List.pairwise_cons.2 ⟨hpost,a2⟩,fun z hz u hu=>?_⟩) (zaj7 hs) fun z=>?_
    ·rcases List.mem_cons.1 hu with rfl|hu
     ·exact hpre z hz
     ·exact a3 z hz u hu
    ·rw [zaj6]
     simp only [List.mem_append,List.mem_cons,List.mem_singleton]
     constructor
     ·rintro ((h|h)|h|h)
      ·exact .inr (.inl (.inl h))
      ·exact .inr (.inl (.inr h))
      ·exact .inl h
      ·exact .inr (.inr h)
     ·rintro (h|(h|h)|h)
      ·exact .inr (.inl h)
      ·exact .inl (.inl h)
      ·exact .inl (.inr h)
      ·exact .inr (.inr h)) ((s.length:Int),s++[x]) ⟨s,[],by simp,by simp,by simp⟩
 rw [h1,h2]
theorem zae5 (l:List Proc) (hl:l.length≤1000000):zm6 l=some (zaH3 l):=by
 unfold zm6
 have key:=zv5 (body:=zI0 l) l Proc.zero (fun i (s:List Proc)=>((i:Int),s)) (fun _ p s=>some (.inl (zam0 p s))) (fun s=>s) (fun i s=>s.Pairwise ltP∧s.length≤i)
  (fun i s hi hs=>by
   have hlen:∀ p,(zam0 p s).length≤s.length+1:=fun p=>by
    have:=List.Nodup.length_le_of_subset (zbu9 (zaj7 (p:=p) hs.1)) (l₂:=p :: s) fun z hz=>by
     rcases zaj6.1 hz with rfl|h
     ·exact .head _
     ·exact .tail _ h
    simpa using this
   refine ⟨?_,fun s' h=>?_⟩
   ·unfold zI0
    have h3:0≤(i:Int)∧(i:Int) < (l.length:Int):=by omega
    simp only [h3.1,h3.2,and_self,zx3,decide_true,if_true,Int.toNat_natCast]
    rw [zaX4 _ _ (by omega),Option.bind_some,ze6 i (by omega)]
    by_cases hm:l.getD i Proc.zero ∈ s
    ·rw [if_pos (decide_eq_true hm),Option.map_some,zbI9 hs.1 hm]; rfl
    ·rw [if_neg (by rw [decide_eq_true_eq]; exact hm),zg6 (by omega),zaX5 _ _ hs.1 hm (by omega),Option.bind_some]
     unfold zP1
     simp only [ze6 i (show i < 4611686018427387904 by omega),Option.map_some,wmap]
   ·simp only [Option.some.injEq,Sum.inl.injEq] at h; subst h
    exact ⟨zaj7 hs.1,by have:=hlen (l.getD i Proc.zero); omega⟩)
  (fun s hs=>by unfold zI0; simp) [] ⟨.nil,by simp⟩
 rw [show ((0,[]):Int×List Proc)=(fun (i:Nat) (s:List Proc)=>((i:Int),s)) 0 [] from rfl,key,zbl5 (fun s p=>zam0 p s)]
 rfl
theorem zaH5 {α β:Type} (l:List α) (z:α) (f:α→β) (s0:List β) {body:Int×List β→Option ((Int×List β)⊕List β)} (hl:l.length≤1000000) (h0:s0.length≤1000000)
  (hb:∀ (i:Nat) (s:List β),i < l.length→s.length≤3000000→body ((i:Int),s)=some (.inl (((i+1:Nat):Int),s++[f (l.getD i z)]))) (he:∀ s,body ((l.length:Int),s)=some (.inr s)):zb4 body (0,s0)=some (s0++l.map f):=by
 have key:=zv5 (body:=body) l z (fun i (s:List β)=>((i:Int),s)) (fun i a s=>some (.inl (zaw4 s (some (f a))))) (fun s=>s) (fun i s=>s.length≤1000000+i)
  (fun i s hi hs=>⟨by rw [hb i s hi (by omega)]; rfl,fun s' h=>by simp only [Option.some.injEq,Sum.inl.injEq] at h; subst h; simp [zaw4]; omega⟩) (fun s hs=>he s) s0 (by omega)
 rw [show ((0,s0):Int×List β)=(fun (i:Nat) (s:List β)=>((i:Int),s)) 0 s0 from rfl,key,zaw5 (fun a=>some (f a))]
 simp
theorem zaX6 (l:List Hold) (hl:l.length≤1000000):zv1 l=some (l.map (·.proc)):=by
 unfold zv1
 rw [zaH5 l Hold.zero (·.proc) [] hl (by simp) (fun i s hi hs=>by
  unfold zT2
  have h3:0≤(i:Int)∧(i:Int) < (l.length:Int):=by omega
  have h1:s.length+1≤4294967296:=by omega
  simp only [h1,h3.1,h3.2,and_self,zx3,decide_true,if_true,Int.toNat_natCast,ze6 i (show i < 4611686018427387904 by omega)]) (fun s=>by unfold zT2; simp)]
 rfl
theorem zbm3 (q:Queue) (h1:q.converts.length≤1000) (h2:q.waits.length≤1000):zB8 q=some ((ordQ q).map (·.proc)):=by
 unfold zB8
 rw [zaH5 q.converts Wait.zero (·.proc) [] (by omega) (by simp) (fun i s hi hs=>by
  unfold zaa2
  have h3:0≤(i:Int)∧(i:Int) < (q.converts.length:Int):=by omega
  have h1:s.length+1≤4294967296:=by omega
  simp only [h1,h3.1,h3.2,and_self,zx3,decide_true,if_true,Int.toNat_natCast,ze6 i (show i < 4611686018427387904 by omega)]) (fun s=>by unfold zaa2; simp),Option.bind_some]
 unfold zaa1
 rw [zaH5 q.waits Wait.zero (·.proc) _ (by omega) (by simp; omega) (fun i s hi hs=>by
  unfold zaa0
  have h3:0≤(i:Int)∧(i:Int) < (q.waits.length:Int):=by omega
  have h1:s.length+1≤4294967296:=by omega
  simp only [h1,h3.1,h3.2,and_self,zx3,decide_true,if_true,Int.toNat_natCast,ze6 i (show i < 4611686018427387904 by omega)]) (fun s=>by unfold zaa0; simp),Option.bind_some]
 unfold zZ9 ordQ
 rw [List.map_append,List.nil_append]
theorem zbm4 (q:Queue) (h0:q.holds.length≤1000) (h1:q.converts.length≤1000) (h2:q.waits.length≤1000):zy3 q=some (zae4 q):=by
 unfold zy3 zae4
 have hl:(ordQ q).length≤2000:=by unfold ordQ; rw [List.length_append]; omega
 rw [zaX6 _ (by omega),Option.bind_some,zbm3 q h1 h2,Option.bind_some,zg6 (by simp; omega),zae5 _ (by simp; omega)]
 rfl
theorem zbm5 {t:List Queue} (hl:t.length≤8) (h:∀ q ∈ t,zp3 q=true):zac5 t=some (zar4 t):=by
 unfold zac5
 have key:=zv5 (body:=zab1 t) t Queue.zero (fun i (s:List Proc)=>((i:Int),s)) (fun _ q s=>some (.inl (s++zae4 q))) (fun s=>s) (fun i s=>s.length≤24 * i)
  (fun i s hi hs=>by
   have hq:=h _ (zY7 (z:=Queue.zero) hi)
   have hql:=zao4 hq
   have hpl:=zbv0 hq
   refine ⟨?_,fun s' h=>?_⟩
   ·unfold zab1
    have h3:0≤(i:Int)∧(i:Int) < (t.length:Int):=by omega
    simp only [h3.1,h3.2,and_self,zx3,decide_true,if_true,Int.toNat_natCast]
    rw [zbm4 _ (by omega) (by omega) (by omega),Option.bind_some,zg6 (by omega),ze6 i (by omega)]
    rfl
   ·simp only [Option.some.injEq,Sum.inl.injEq] at h; subst h; rw [List.length_append]; omega)
  (fun s hs=>by unfold zab1; simp) [] (by simp)
 rw [show ((0,[]):Int×List Proc)=(fun (i:Nat) (s:List Proc)=>((i:Int),s)) 0 [] from rfl,key,zbm1 zae4,List.nil_append,Option.bind_some]
 unfold zax6
 have:=zaT0 t h
 rw [zae5 _ (by omega)]; rfl
theorem zbm6 (t:List Queue):zB5 t=some (zah7 t):=by
 unfold zB5 zah7
 by_cases h8:8 < t.length
 ·have:¬ t.length≤8:=by omega
  rw [if_pos (by simp; omega)]
  simp [this]
 ·have hl:t.length≤8:=by omega
  rw [if_neg (by simp; omega),zbm0 t hl (fun i hi=>by
   unfold zZ7
   have h3:0≤(i:Int)∧(i:Int) < (t.length:Int):=by omega
   simp only [h3.1,h3.2,and_self,implies_true,zx3,decide_true,if_true,Int.toNat_natCast,zbl3,Option.bind_some,ze6 i (by omega)]
   by_cases e0:i=0
   ·subst e0
    rw [zg6 (by simp)]
    cases zp3 (t.getD 0 Queue.zero) <;> simp
   ·rw [zaw3 i (by omega) (by omega),zg6 (by intro _; omega)]
    simp only [Int.toNat_natCast,show (0:Int) < (i:Int) by omega,decide_true,Bool.true_and,e0,false_or]
    unfold ltN
    rcases hb (zp3 (t.getD i Queue.zero)) with b1|b1 <;> rcases hb (Op.bytesLess (t.getD (i - 1) Queue.zero).resource.name.toList (t.getD i Queue.zero).resource.name.toList) with b2|b2 <;> simp [b1,b2,-List.getD_eq_getElem?_getD]) (by unfold zZ7; simp)]
  simp only [hl,decide_true,Bool.true_and]
  cases hw:ascW t none <;> rfl
theorem zbJ3 (a b:List Queue) (h:a.length=b.length) (hl:a.length≤1000000) (hs:∀ q ∈ a,q.holds.length≤1000∧q.converts.length≤1000∧q.waits.length≤1000) :
  zb4 (zN9 a b) 0=some (if a=b then .inl () else .inr false):=by
 have key:zb4 (zN9 a b) 0=some ((zH4 (fun i=>if decide (a.getD i Queue.zero=b.getD i Queue.zero)=true then none else some (Sum.inr false)) a.length 0).getD (Sum.inl ())):=by
  refine zz6 a.length _ (Sum.inl ()) (fun i hi=>?_) ?_
  ·have hq:=hs _ (zY7 (z:=Queue.zero) hi)
   unfold zN9
   rw [if_pos (by simpa using hi),zg6 (by omega),zg6 (by omega),zc4 (by omega) (by omega)]
   simp only [Int.toNat_natCast]
   rw [zbq9 _ _ (by omega) (by omega) (by omega),Option.bind_some]
   by_cases hx:a.getD i Queue.zero=b.getD i Queue.zero
   ·simp only [hx,decide_true,Bool.not_true,Bool.false_eq_true,if_false,if_true]
   ·simp only [hx,decide_false,Bool.not_false,if_true,Bool.false_eq_true,if_false]
  ·unfold zN9
   rw [if_neg (by simp)]
 rw [key,zJ7,← List.range_eq_range',zbX3 a b Queue.zero h]
 by_cases e:a=b <;> simp [e]
theorem zbr1 (a b:List Queue) (hl:a.length≤1000000) (hs:∀ q ∈ a,q.holds.length≤1000∧q.converts.length≤1000∧q.waits.length≤1000):zP5 a b=some (decide (a=b)):=by
 unfold zP5
 by_cases h:a.length=b.length
 ·rw [if_neg (by simp [h]),zbJ3 a b h hl hs]
  by_cases e:a=b <;> simp [e,zad0]
 ·have:¬ a=b:=fun e=>h (by rw [e])
  rw [if_pos (by simp; omega),decide_eq_false this]
end Ab
end Go.Proofs.YtebopmkhhppfaaaGreatDoor
