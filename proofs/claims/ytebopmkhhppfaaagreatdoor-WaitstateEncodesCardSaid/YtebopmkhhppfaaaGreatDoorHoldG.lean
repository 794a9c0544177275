import Derived.Test.YtebopmkhhppfaaaGreatDoorFn
import Derived.Test.YtebopmkhhppfaaaGreatDoorWalk
import Derived.Test.YtebopmkhhppfaaaGreatDoorPure
namespace Go.Proofs.YtebopmkhhppfaaaGreatDoor
namespace Ab
set_option linter.unusedVariables false
set_option linter.unusedSimpArgs false
abbrev cmpP (p q:Proc):Int:=zm1 p q
def ltP (p q:Proc):Prop:=p.site < q.site∨p.site=q.site∧(p.inc < q.inc∨p.inc=q.inc∧p.num < q.num)
instance (p q:Proc):Decidable (ltP p q):=by unfold ltP; infer_instance
theorem zbD9 (a b:Int):zB3 a b=if a < b then -1 else if b < a then 1 else 0:=by
 unfold zB3; simp only [decide_eq_true_eq]
theorem zbz1 (p q:Proc):cmpP p q=if ltP p q then -1 else if ltP q p then 1 else 0:=by
 obtain ⟨a,b,c⟩:=p
 obtain ⟨d,e,f⟩:=q
 unfold cmpP zm1 ltP
 simp only [zbD9,Bool.not_eq_true',decide_eq_false_iff_not]
 grind
theorem zaq8 (p:Proc):¬ ltP p p:=by unfold ltP; omega
theorem zax7 {p q r:Proc} (h:ltP p q) (k:ltP q r):ltP p r:=by unfold ltP at *; omega
theorem zaW6 {p q:Proc} (h:ltP p q):¬ ltP q p:=by unfold ltP at *; omega
theorem zao9 {p q:Proc} (h:p≠q):ltP p q∨ltP q p:=by
 obtain ⟨a,b,c⟩:=p
 obtain ⟨d,e,f⟩:=q
 simp only [ne_eq,Proc.mk.injEq] at h
 unfold ltP
 simp only
 omega
theorem zbk1 (p q:Proc):0 < cmpP p q ↔ ltP q p:=by
 rw [zbz1]
 by_cases h:ltP p q
 ·simp [h,zaW6 h]
 ·by_cases h2:ltP q p <;> simp [h,h2]
theorem zaZ9 (p q:Proc):0≤cmpP p q ↔ ¬ ltP p q:=by
 rw [zbz1]
 by_cases h:ltP p q
 ·simp [h]
 ·by_cases h2:ltP q p <;> simp [h,h2]
theorem zab2 (p q:Proc):zf0 p q=some (cmpP p q):=by
 unfold zf0 zn9
 have e:∀ (x y z:Int) (i:Nat) (h:[x,y,z].length=3),Arr.get (⟨[x,y,z],h⟩:Arr Int 3) i 0=match i with|0=>x|1=>y|_=>z:=by
  intro x y z i h
  match i with
  | 0=>rfl
  | 1=>rfl
  | 2=>rfl
  | n+3 =>
   have:¬ (n+3 < 3):=by omega
   simp [Arr.get,zD5,this]
 have w1:IntKind.i64.wrap (0+1)=1:=by decide
 have w2:IntKind.i64.wrap (1+1)=2:=by decide
 have w3:IntKind.i64.wrap (2+1)=3:=by decide
 have s3:zf8 ⟨[p.site,p.inc,p.num],rfl⟩ ⟨[q.site,q.inc,q.num],rfl⟩ 3=some (.inr (.inl ())):=by unfold zf8; simp
 have s2:zf8 ⟨[p.site,p.inc,p.num],rfl⟩ ⟨[q.site,q.inc,q.num],rfl⟩ 2=some (if p.num < q.num then .inr (.inr (-1)) else if q.num < p.num then .inr (.inr 1) else .inl 3):=by
  unfold zf8
  rw [if_pos (by decide),gdp (by decide),gdp (by decide),gdp (by decide)]
  simp only [e,show (2:Int).toNat=2 from rfl,decide_eq_true_eq,w3]
  by_cases h:p.num < q.num
  ·simp [h]
  ·by_cases h2:q.num < p.num <;> simp [h,h2]
 have s1:zf8 ⟨[p.site,p.inc,p.num],rfl⟩ ⟨[q.site,q.inc,q.num],rfl⟩ 1=some (if p.inc < q.inc then .inr (.inr (-1)) else if q.inc < p.inc then .inr (.inr 1) else .inl 2):=by
  unfold zf8
  rw [if_pos (by decide),gdp (by decide),gdp (by decide),gdp (by decide)]
  simp only [e,Int.toNat_one,decide_eq_true_eq,w2]
  by_cases h:p.inc < q.inc
  ·simp [h]
  ·by_cases h2:q.inc < p.inc <;> simp [h,h2]
 have s0:zf8 ⟨[p.site,p.inc,p.num],rfl⟩ ⟨[q.site,q.inc,q.num],rfl⟩ 0=some (if p.site < q.site then .inr (.inr (-1)) else if q.site < p.site then .inr (.inr 1) else .inl 1):=by
  unfold zf8
  rw [if_pos (by decide),gdp (by decide),gdp (by decide),gdp (by decide)]
  simp only [e,Int.toNat_zero,decide_eq_true_eq,w1]
  by_cases h:p.site < q.site
  ·simp [h]
  ·by_cases h2:q.site < p.site <;> simp [h,h2]
 rw [zbz1]
 unfold ltP
 by_cases a1:p.site < q.site
 ·rw [zd2,s0]; simp [a1]
 ·by_cases a2:q.site < p.site
  ·rw [zd2,s0]
   have:¬ p.site=q.site:=by omega
   simp [a1,a2,this]
  ·have h1:p.site=q.site:=by omega
   by_cases b1:p.inc < q.inc
   ·rw [zd2,s0]; simp only [a1,a2,if_false]; rw [zd2,s1]; simp [b1,h1]
   ·by_cases b2:q.inc < p.inc
    ·have:¬ p.inc=q.inc:=by omega
     rw [zd2,s0]; simp only [a1,a2,if_false]; rw [zd2,s1]; simp [b1,b2,h1,this]
    ·have h2:p.inc=q.inc:=by omega
     rw [zd2,s0]; simp only [a1,a2,if_false]; rw [zd2,s1]; simp only [b1,b2,if_false]; rw [zd2,s2]
     by_cases c1:p.num < q.num
     ·simp [c1,h1,h2]
     ·by_cases c2:q.num < p.num
      ·simp [c1,c2,h1,h2]
      ·simp only [c1,c2,if_false]; rw [zd2,s3]; simp [h1,h2,zM2]
def insP (p:Proc) (a:Amount):List Hold→List Hold
 | []=>[⟨p,a⟩]
 | h :: t=>if ltP p h.proc then ⟨p,a⟩ :: h :: t else h :: insP p a t
def zD6 (p:Proc) (l:List Hold):List Hold:=l.filter fun h=>!decide (h.proc=p)
def setL (l:List Hold) (p:Proc) (a:Amount):List Hold:=if a=Amount.zero then zD6 p l else insP p a (zD6 p l)
theorem zaG7 (p:Proc) (h:Hold) (t:List Hold):zD6 p (h :: t)=if h.proc=p then zD6 p t else h :: zD6 p t:=by
 unfold zD6; rw [List.filter_cons]; by_cases e:h.proc=p <;> simp [e]
theorem zaN7 (p:Proc) (l:List Hold):(zD6 p l).length≤l.length:=List.length_filter_le _ _
theorem zbz2 (l:List Hold) (p:Proc) (a:Amount) (hl:l.length≤1000000):zK9 l p a=some (setL l p a):=by
 unfold zK9
 have key:=zv5 (body:=zX8 l p a) l Hold.zero (fun i (s:Bool×List Hold)=>(s.1,(i:Int),s.2))
  (fun i h s=>some (.inl (if h.proc=p then s else if s.1=false∧ltP p h.proc then (true,s.2++[⟨p,a⟩]++[h]) else (s.1,s.2++[h])))) (fun s=>s) (fun i s=>s.2.length≤2 * i)
  (fun i s hi hs=>by
   refine ⟨?_,fun s' h=>?_⟩
   ·unfold zX8
    have h1:s.2.length+1≤4294967296:=by omega
    have h2:s.2.length+1+1≤4294967296:=by omega
    have h3:0≤(i:Int)∧(i:Int) < (l.length:Int):=by omega
    simp only [h1,h2,h3.1,h3.2,and_self,implies_true,zx3,decide_true,if_true,Int.toNat_natCast,decide_eq_true_eq,Bool.and_eq_true,Bool.not_eq_true',zbk1,ze6 i (by omega),Option.map_some,wmap]
    by_cases e:(l.getD i Hold.zero).proc=p
    ·simp only [e,if_true]
    ·simp only [e,if_false]
     split <;> rfl
   ·simp only [Option.some.injEq,Sum.inl.injEq] at h
    subst h
    split
    ·omega
    ·split <;> simp <;> omega)
  (fun s hs=>by unfold zX8; simp) (zi4 a,[]) (by simp)
 have hz:zi4 a=decide (a=Amount.zero):=rfl
 have fold:∀ (l:List Hold) (i:Nat) (d:Bool) (o:List Hold),walk (fun i h (s:Bool×List Hold)=>some (.inl (if h.proc=p then s else if s.1=false∧ltP p h.proc then (true,s.2++[⟨p,a⟩]++[h]) else (s.1,s.2++[h])))) (fun s=>s) l i (d,o) =
   some (if d=true then (true,o++zD6 p l) else if (zD6 p l).any (fun h=>decide (ltP p h.proc))=true then (true,o++insP p a (zD6 p l)) else (false,o++zD6 p l)):=by
  intro l
  induction l with
  | nil=>intro i d o; cases d <;> simp [walk,zD6]
  | cons h t ih =>
   intro i d o
   simp only [walk,zaG7]
   by_cases e:h.proc=p
   ·simp only [e,if_true]; exact ih (i+1) d o
   ·simp only [e,if_false]
    by_cases e2:d=false∧ltP p h.proc
    ·obtain ⟨rfl,e3⟩:=e2
     simp only [e3,and_self,if_true]
     rw [ih]
     simp [insP,e3]
    ·rw [if_neg e2,ih]
     cases d with
     | true=>simp
     | false =>
      have e3:¬ ltP p h.proc:=fun hh=>e2 ⟨rfl,hh⟩
      simp only [Bool.false_eq_true,if_false,insP,e3,List.any_cons,decide_false,Bool.false_or]
      split <;> simp
 have noins:∀ l:List Hold,l.any (fun h=>decide (ltP p h.proc))=false→insP p a l=l++[⟨p,a⟩]:=by
  intro l
  induction l with
  | nil=>intro _; rfl
  | cons h t ih =>
   intro hh
   simp only [List.any_cons,Bool.or_eq_false_iff,decide_eq_false_iff_not] at hh
   simp only [insP,hh.1,if_false,ih hh.2,List.cons_append]
 rw [show ((zi4 a,(0:Int),([]:List Hold)):Bool×Int×List Hold)=(fun (i:Nat) (s:Bool×List Hold)=>(s.1,(i:Int),s.2)) 0 (zi4 a,[]) from rfl,key,fold,hz]
 unfold setL zag9
 have ho:=zaN7 p l
 by_cases ha:a=Amount.zero
 ·simp [ha]
 ·simp only [ha,decide_false,Bool.false_eq_true,if_false,List.nil_append]
  by_cases hx:(zD6 p l).any (fun h=>decide (ltP p h.proc))=true
  ·simp [hx]
  ·have hx:(zD6 p l).any (fun h=>decide (ltP p h.proc))=false:=by simpa using hx
   rw [if_neg (by rw [hx]; decide),Option.bind_some,noins _ hx]
   show gd ((zD6 p l).length+1≤4294967296) _=_
   rw [gdp (by omega)]
theorem zcu2 {α:Type} (l:List α) (k:Nat) (z x:α) (hk:k≤l.length) :
  (((l++[z]).take (k+1)++(((l++[z]).drop k).take (l.length+1 - k)).take (l.length+1 - (k+1))++(l++[z]).drop (k+1+min (((l++[z]).drop k).take (l.length+1 - k)).length (l.length+1 - (k+1)))).set k x)=l.take k++x :: l.drop k:=by
 have e1:((l++[z]).drop k).take (l.length+1 - k)=l.drop k++[z]:=by
  rw [List.drop_append_of_le_length hk,List.take_of_length_le (by simp; omega)]
 have e2:(l.drop k++[z]).take (l.length+1 - (k+1))=l.drop k:=by
  rw [List.take_append_of_le_length (by simp),List.take_of_length_le (by simp)]
 have e3:(l++[z]).drop (k+1+min (l.drop k++[z]).length (l.length+1 - (k+1)))=[]:=by
  rw [List.drop_eq_nil_of_le]; simp; omega
 rw [e1,e2,e3,List.append_nil]
 by_cases hkl:k=l.length
 ·subst hkl
  rw [List.take_of_length_le (by simp),List.drop_length,List.append_nil,List.set_append_right _ _ (Nat.le_refl _)]
  simp
 ·have:(l++[z]).take (k+1)=l.take k++[l[k]'(by omega)]:=by
   rw [List.take_append_of_le_length (by omega),List.take_succ_eq_append_getElem (by omega)]
  rw [this,List.append_assoc,List.set_append_right _ _ (by simp; omega)]
  simp [show min k l.length=k by omega]
theorem zbk2 (l:List Hold) (p:Proc) (a:Amount) (hl:l.length≤1000000):zu5 l p a=some (setL l p a):=by
 unfold zu5
 have hw:IntKind.i64.wrap ((l.length:Int)+1)=(l.length:Int)+1:=zc4 (by omega) (by omega)
 rw [hw,gdp (by omega)]
 have key:=zv5 (body:=zL4 l p) l Hold.zero (fun i (s:Int×List Hold)=>(s.1,(i:Int),s.2))
  (fun i h s=>some (.inl (if h.proc=p then s else (if s.1 < 0∧ltP p h.proc then (s.2.length:Int) else s.1,s.2++[h])))) (fun s=>s) (fun i s=>s.2.length≤i)
  (fun i s hi hs=>by
   refine ⟨?_,fun s' h=>?_⟩
   ·unfold zL4
    have h1:s.2.length+1≤4294967296:=by omega
    have h3:0≤(i:Int)∧(i:Int) < (l.length:Int):=by omega
    simp only [h1,h3.1,h3.2,and_self,implies_true,zx3,decide_true,if_true,Int.toNat_natCast,decide_eq_true_eq,Bool.and_eq_true,zab2,ze6 i (by omega),Option.map_some,wmap]
    by_cases e:(l.getD i Hold.zero).proc=p
    ·simp only [e,if_true]
    ·simp only [e,if_false]
     by_cases e2:s.1 < 0
     ·simp only [e2,if_true,Option.bind_some,true_and,zbk1]
      split <;> rfl
     ·simp only [e2,if_false,Option.bind_some,false_and]
   ·simp only [Option.some.injEq,Sum.inl.injEq] at h
    subst h
    split
    ·omega
    ·simp; omega)
  (fun s hs=>by unfold zL4; simp) (-1,[]) (by simp)
 have fold:∀ (l:List Hold) (i:Nat) (d:Int) (o:List Hold),walk (fun i h (s:Int×List Hold)=>some (.inl (if h.proc=p then s else (if s.1 < 0∧ltP p h.proc then (s.2.length:Int) else s.1,s.2++[h])))) (fun s=>s) l i (d,o) =
   some (if d < 0∧(zD6 p l).any (fun h=>decide (ltP p h.proc))=true then (((o.length+(zD6 p l).findIdx (fun h=>decide (ltP p h.proc)):Nat):Int),o++zD6 p l) else (d,o++zD6 p l)):=by
  intro l
  induction l with
  | nil=>intro i d o; simp [walk,zD6]
  | cons h t ih =>
   intro i d o
   simp only [walk,zaG7]
   by_cases e:h.proc=p
   ·simp only [e,if_true]; exact ih (i+1) d o
   ·simp only [e,if_false]
    by_cases e2:d < 0∧ltP p h.proc
    ·simp only [e2,and_self,if_true]
     rw [ih,if_neg (by omega)]
     simp [e2.2,List.findIdx_cons]
    ·rw [if_neg e2,ih]
     by_cases e3:d < 0
     ·have e4:¬ ltP p h.proc:=fun hh=>e2 ⟨e3,hh⟩
      simp only [e3,true_and,List.any_cons,e4,decide_false,Bool.false_or,List.findIdx_cons,cond_false,List.length_append,List.length_cons,List.length_nil,List.append_assoc,List.cons_append,List.nil_append]
      split
      ·congr 3; omega
      ·rfl
     ·simp [e3]
 have ins:∀ l:List Hold,insP p a l=l.take (l.findIdx (fun h=>decide (ltP p h.proc)))++⟨p,a⟩ :: l.drop (l.findIdx (fun h=>decide (ltP p h.proc))):=by
  intro l
  induction l with
  | nil=>rfl
  | cons h t ih =>
   simp only [insP,List.findIdx_cons]
   by_cases e:ltP p h.proc
   ·simp [e]
   ·simp [e,ih]
 have key2:zb4 (zL4 l p) (-1,0,List.replicate 0 Hold.zero)=some (if (zD6 p l).any (fun h=>decide (ltP p h.proc))=true then (((zD6 p l).findIdx (fun h=>decide (ltP p h.proc)):Nat):Int) else -1,zD6 p l):=by
  rw [show ((-1,0,List.replicate 0 Hold.zero):Int×Int×List Hold)=(fun (i:Nat) (s:Int×List Hold)=>(s.1,(i:Int),s.2)) 0 (-1,[]) from rfl,key,fold]
  have:((-1:Int) < 0):=by decide
  simp only [this,true_and,List.nil_append,List.length_nil,Nat.zero_add]
  split <;> rfl
 rw [key2,Option.bind_some]
 unfold zZ0 setL
 have hz:zg8 a=decide (a=Amount.zero):=rfl
 rw [hz]
 by_cases ha:a=Amount.zero
 ·simp [ha]
 ·simp only [ha,decide_false,Bool.false_eq_true,if_false,decide_eq_true_eq]
  have ho:=zaN7 p l
  generalize zD6 p l=o at ho
  have fi:o.findIdx (fun h=>decide (ltP p h.proc))≤o.length:=List.findIdx_le_length
  have hz2:({ Hold.zero with }:Hold)=Hold.zero:=rfl
  by_cases hx:o.any (fun h=>decide (ltP p h.proc))=true
  ·simp only [hx,if_true]
   generalize hk:o.findIdx (fun h=>decide (ltP p h.proc))=k at fi
   have hkl:k < o.length:=by rw [← hk]; exact List.findIdx_lt_length_of_exists (by simpa using hx)
   rw [if_neg (by omega)]
   simp only [ze6 k (by omega),Int.toNat_natCast]
   rw [gdp (by omega),gdp (by omega),gdp (by omega),gdp (by omega),zcu2 o k _ _ (by omega),ins o,hk]
  ·have hx':o.any (fun h=>decide (ltP p h.proc))=false:=by simpa using hx
   simp only [hx',Bool.false_eq_true,if_false]
   rw [if_pos (by decide)]
   have hk:o.findIdx (fun h=>decide (ltP p h.proc))=o.length:=by
    rw [List.findIdx_eq_length]; simpa using hx'
   simp only [ze6 o.length (by omega),Int.toNat_natCast]
   rw [gdp (by omega),gdp (by omega),gdp (by omega),gdp (by omega),zcu2 o o.length _ _ (by omega),ins o,hk]
end Ab
end Go.Proofs.YtebopmkhhppfaaaGreatDoor
namespace Go.Proofs.YtebopmkhhppfaaaGreatDoor
namespace Ab
set_option linter.unusedVariables false
set_option linter.unusedSimpArgs false
theorem zax8 (r:Resource):zx9 r=ze4 r:=by
 unfold zx9 ze4
 rw [Bool.eq_iff_iff]
 by_cases h1:r.kind=1
 ·simp [h1]
 ·by_cases h2:r.kind=2 <;> simp [h1,h2]
theorem zaS3 (r:Resource) (a:Amount):zo5 r a=zb7 r a:=by
 unfold zo5 zb7 zq8 zm2
 rw [zax8]
theorem zbN6 (r:Resource) (a:Amount):zx4 r a=zc0 r a:=by
 unfold zx4 zc0 zi4 zg8
 rw [zax8,zaS3]
theorem zax9 (p:Proc):ze3 p=za9 p:=by
 unfold ze3 za9 zu3
 rw [Bool.eq_iff_iff]; simp; omega
theorem zU4 (r:Resource):ze4 r=true ↔ (r.kind=1∧r.units=1)∨(r.kind=2∧1≤r.units∧r.units≤8):=by
 unfold ze4
 by_cases h1:r.kind=1
 ·simp [h1]
 ·by_cases h2:r.kind=2 <;> simp [h1,h2]
theorem zaG8 (r:Resource) (a:Amount):zb7 r a=true ↔ (r.kind=1∧r.units=1∧1≤a.mode∧a.mode≤5∧a.units=0)∨(r.kind=2∧1≤r.units∧r.units≤8∧a.mode=0∧1≤a.units∧a.units≤r.units):=by
 unfold zb7 zm2
 have:=zU4 r
 cases h:ze4 r with
 | false =>
  rw [h] at this
  simp only [Bool.false_eq_true,false_iff] at this
  simp only [Bool.not_false,if_true,Bool.false_eq_true,false_iff]
  omega
 | true =>
  rw [h] at this
  simp only [true_iff] at this
  by_cases h1:r.kind=1
  ·simp [h1]; omega
  ·simp [h1]; omega
theorem zbk3 (r:Resource) (a:Amount):zc0 r a=true ↔ (ze4 r=true∧a=Amount.zero)∨zb7 r a=true:=by
 unfold zc0 zg8
 have e:(decide (a={ Amount.zero with }):Bool)=decide (a=Amount.zero):=rfl
 rw [e]
 have hs:zb7 r a=true→ze4 r=true:=by
  rw [zaG8,zU4]; omega
 cases h1:ze4 r <;> cases h2:zb7 r a <;> simp_all
theorem zbu5 {r:Resource} {a:Amount} (h:zc0 r a=true) (hk:r.kind=1):a.units=0∧0≤a.mode∧a.mode≤5∧r.units=1:=by
 rw [zbk3,zaG8,zU4] at h
 rcases h with ⟨h1,rfl⟩|h1
 ·simp [Amount.zero]; omega
 ·omega
theorem zbR1 {r:Resource} {a:Amount} (h:zc0 r a=true) (hk:r.kind=2):a.mode=0∧0≤a.units∧a.units≤r.units∧r.units≤8:=by
 rw [zbk3,zaG8,zU4] at h
 rcases h with ⟨h1,rfl⟩|h1
 ·simp [Amount.zero]; omega
 ·omega
theorem zaf5 {r:Resource} {a:Amount} (h:zc0 r a=true):0≤a.units∧a.units≤8∧0≤a.mode∧a.mode≤5∧1≤r.units∧r.units≤8:=by
 rw [zbk3,zaG8,zU4] at h
 rcases h with ⟨h1,rfl⟩|h1
 ·simp [Amount.zero]; omega
 ·omega
abbrev mC (a b:Int):Bool:=zz7 a b
theorem zbI5 (a b:Int):mC a b=true ↔ (1≤a∧a≤4∧1≤b∧b≤4)∧(a=1∨b=1∨a=b∧a≠4):=by
 unfold mC zz7 zq8
 split
 ·rename_i h; simp at h; simp; omega
 ·rename_i h; simp at h; simp; omega
theorem zbN7 (a b:Int):mC a b=mC b a:=by rw [Bool.eq_iff_iff,zbI5,zbI5]; omega
theorem zaN8 (a b:Int):zk6 a b=some (mC a b):=by
 unfold zk6 zm2
 by_cases h:(1≤a∧a≤5)∧(1≤b∧b≤5)
 ·obtain ⟨⟨a1,a2⟩,b1,b2⟩:=h
  have wa:IntKind.i64.wrap (a - 1)=a - 1:=zc4 (by omega) (by omega)
  have wb:IntKind.i64.wrap (b - 1)=b - 1:=zc4 (by omega) (by omega)
  simp only [wa,wb]
  rw [gdp (fun _=>by omega),gdp (fun _=>by omega)]
  congr 1
  have ha:a=1∨a=2∨a=3∨a=4∨a=5:=by omega
  have hb:b=1∨b=2∨b=3∨b=4∨b=5:=by omega
  rcases ha with rfl|rfl|rfl|rfl|rfl <;> rcases hb with rfl|rfl|rfl|rfl|rfl <;> decide
 ·have hv:(((decide (1≤a))&&(decide (a≤5)))&&((decide (1≤b))&&(decide (b≤5))))=false:=by
   rw [Bool.eq_false_iff]; intro hh; simp at hh; omega
  rw [hv]
  rw [gdp (fun h=>by cases h),gdp (fun h=>by cases h)]
  have:mC a b=false:=by rw [Bool.eq_false_iff]; intro hh; rw [zbI5] at hh; omega
  rw [this]; rfl
def zaq9 (b a:Amount):Prop:=b.mode≠0∧a.mode≠0∧mC b.mode a.mode=false
instance (b a:Amount):Decidable (zaq9 b a):=by unfold zaq9; infer_instance
def sumU:List Amount→Int
 | []=>0
 | a :: l=>a.units+sumU l
structure CompP (r:Resource) (l:List Amount):Prop where
 perm:∀ a ∈ l,zc0 r a=true
 sum:sumU l≤r.units
 pair:l.Pairwise fun b a=>¬ zaq9 b a
instance (r:Resource) (l:List Amount):Decidable (CompP r l) :=
 decidable_of_iff ((∀ a ∈ l,zc0 r a=true)∧sumU l≤r.units∧l.Pairwise fun b a=>¬ zaq9 b a) ⟨fun ⟨a,b,c⟩=>⟨a,b,c⟩,fun ⟨a,b,c⟩=>⟨a,b,c⟩⟩
def zba0 (r:Resource) (l:List Amount):Bool:=ze4 r&&decide (CompP r l)
theorem zbE0 {l:List Amount} (h:∀ a ∈ l,0≤a.units):0≤sumU l:=by
 induction l with
 | nil=>simp [sumU]
 | cons a l ih =>
  have:=ih fun b hb=>h b (.tail _ hb)
  have:=h a (.head _)
  simp only [sumU]; omega
def zaL8 (r:Resource):List Amount→List Amount→Int→Bool
 | [],_,_=>true
 | a :: t,prev,s=>zc0 r a&&(decide (s+a.units≤r.units)&&(decide (∀ b ∈ prev,¬ zaq9 b a)&&zaL8 r t (prev++[a]) (s+a.units)))
theorem zaW7 (r:Resource) (hr:0≤r.units):∀ (l prev:List Amount) (s:Int),s≤r.units→(zaL8 r l prev s=true ↔ (∀ a ∈ l,zc0 r a=true)∧s+sumU l≤r.units∧(∀ b ∈ prev,∀ a ∈ l,¬ zaq9 b a)∧l.Pairwise fun b a=>¬ zaq9 b a)
 | [],prev,s,hs=>by simp [zaL8,sumU]; exact hs
 | a :: t,prev,s,hs=>by
  simp only [zaL8,Bool.and_eq_true,decide_eq_true_eq,List.forall_mem_cons,List.pairwise_cons,sumU]
  constructor
  ·rintro ⟨h1,h2,h3,h4⟩
   rw [zaW7 r hr t (prev++[a]) (s+a.units) h2] at h4
   obtain ⟨k1,k2,k3,k4⟩:=h4
   refine ⟨⟨h1,k1⟩,by omega,fun b hb=>⟨h3 b hb,fun c hc=>k3 b (by simp [hb]) c hc⟩,fun c hc=>k3 a (by simp) c hc,k4⟩
  ·rintro ⟨⟨h1,k1⟩,h2,h3,h4,h5⟩
   have hn:0≤sumU t:=zbE0 fun b hb=>(zaf5 (k1 b hb)).1
   have h6:s+a.units≤r.units:=by omega
   refine ⟨h1,h6,fun b hb=>(h3 b hb).1,?_⟩
   rw [zaW7 r hr t (prev++[a]) (s+a.units) h6]
   refine ⟨k1,by omega,fun b hb c hc=>?_,h5⟩
   rcases List.mem_append.1 hb with hb|hb
   ·exact (h3 b hb).2 c hc
   ·simp at hb; subst hb; exact h4 c hc
theorem zbE1 (r:Resource) (l:List Amount) (hs:ze4 r=true):zba0 r l=zaL8 r l [] 0:=by
 have hr:1≤r.units:=by rw [zU4] at hs; omega
 unfold zba0
 rw [hs,Bool.true_and,Bool.eq_iff_iff,zaW7 r (by omega) l [] 0 (by omega),decide_eq_true_eq]
 exact ⟨fun ⟨a,b,c⟩=>⟨a,by omega,by simp,c⟩,fun ⟨a,b,_,c⟩=>⟨a,by omega,c⟩⟩
def zaN9 (seen:Arr Bool 6) (m:Int):Bool:=(List.range' 0 6).all fun k=>!(seen.get k false)||mC k m
theorem zbz3 (l:List Amount) (g:Int×Int×Arr Bool 6):zb4 (zv9 l g) 0=some (if zaN9 g.2.2 (l.getD g.2.1.toNat Amount.zero).mode=true then .inl () else .inr false):=by
 have key:=zz6 (body:=zv9 l g) 6 (fun i=>if (!(g.2.2.get i false)||mC i (l.getD g.2.1.toNat Amount.zero).mode)=true then none else some (.inr false)) (.inl ()) (fun i hi=>by
  unfold zv9
  have h3:0≤(i:Int)∧(i:Int) < 6:=by omega
  have h4:IntKind.i64.wrap ((i:Int)+1)=(i:Int)+1:=zc4 (by omega) (by omega)
  simp only [h3.1,h3.2,and_self,zx3,decide_true,if_true,Int.toNat_natCast,zaN8,h4]
  cases Arr.get g.2.2 i false <;> cases mC i (l.getD g.2.1.toNat Amount.zero).mode <;> rfl) (by unfold zv9; simp)
 rw [key,zJ7]
 unfold zaN9
 split <;> simp_all
theorem zcA5 (s:Arr Bool 6) (i k:Nat) (hi:i < 6) (hk:k < 6):(s.put i true).get k false=if k=i then true else s.get k false:=by
 obtain ⟨l,hl⟩:=s
 simp only [Arr.put,Arr.get,zY9 hi,zY9 hk,List.getD_eq_getElem?_getD,List.getElem?_set]
 by_cases h:k=i
 ·subst h; simp [hl,hk]
 ·rw [if_neg (fun e=>h e.symm),if_neg h]
theorem zaG9 (r:Resource) (l:List Amount) (hl:l.length≤1000000):zj1 r l=some (zba0 r l):=by
 unfold zj1
 cases hs:ze4 r with
 | false=>simp [zba0,hs]
 | true =>
  have hru:1≤r.units∧r.units≤8:=by rw [zU4] at hs; omega
  rw [zbE1 r l hs]
  simp only [Bool.not_true,Bool.false_eq_true,if_false]
  have key:=zv5 (body:=zC2 r l) l Amount.zero (fun i (s:Int×Arr Bool 6)=>(s.1,(i:Int),s.2))
   (fun i a s=>some (if zc0 r a=false∨r.units < s.1+a.units then .inr false else if a.mode=0 then .inl (s.1+a.units,s.2) else if zaN9 s.2 a.mode=true then .inl (s.1+a.units,s.2.put a.mode.toNat true) else .inr false)) (fun _=>true) (fun i s=>0≤s.1∧s.1≤8)
   (fun i s hi hi2=>by
    refine ⟨?_,fun s' h=>?_⟩
    ·unfold zC2
     have h3:0≤(i:Int)∧(i:Int) < (l.length:Int):=by omega
     simp only [h3.1,h3.2,and_self,zx3,decide_true,if_true,Int.toNat_natCast,ze6 i (by omega),Option.map_some,zbz3]
     cases hp:zc0 r (l.getD i Amount.zero) with
     | false=>simp [wmap]
     | true =>
      have hb:=zaf5 hp
      have hw:IntKind.i64.wrap (s.1+(l.getD i Amount.zero).units)=s.1+(l.getD i Amount.zero).units:=zc4 (by omega) (by omega)
      simp only [hw,Bool.not_true,Bool.false_or,decide_eq_true_eq,Bool.true_eq_false,false_or]
      by_cases h4:r.units < s.1+(l.getD i Amount.zero).units
      ·simp only [h4,if_true,wmap]
      ·by_cases h5:(l.getD i Amount.zero).mode=0
       ·simp only [h4,if_false,h5,if_true,wmap]
       ·simp only [h4,h5,if_false]
        by_cases h6:zaN9 s.2 (l.getD i Amount.zero).mode=true
        ·simp only [h6,if_true,Option.bind_some,wmap]
         unfold zK4
         simp only [Int.toNat_natCast,hw,ze6 i (by omega)]
         rw [gdp (by omega)]
        ·simp only [h6,Bool.false_eq_true,if_false,wmap,Option.bind_some]
    ·simp only [Option.some.injEq] at h
     split at h
     ·cases h
     ·rename_i hn
      simp only [not_or,Bool.not_eq_false] at hn
      have hb:=zaf5 hn.1
      split at h
      ·cases h; simp only; omega
      ·split at h
       ·cases h; simp only; omega
       ·cases h)
   (fun s hs=>by unfold zC2; simp) (0,Arr.rep 6 false) (by simp)
  have fold:∀ (l prev:List Amount) (i:Nat) (s:Int) (seen:Arr Bool 6),(∀ b ∈ prev,0≤b.mode∧b.mode≤5)→(∀ k,k < 6→seen.get k false=decide (∃ b ∈ prev,b.mode≠0∧b.mode=(k:Int))) →
    walk (fun i a (s:Int×Arr Bool 6)=>some (if zc0 r a=false∨r.units < s.1+a.units then .inr false else if a.mode=0 then .inl (s.1+a.units,s.2) else if zaN9 s.2 a.mode=true then .inl (s.1+a.units,s.2.put a.mode.toNat true) else .inr false)) (fun _=>true) l i (s,seen)=some (zaL8 r l prev s):=by
   intro l
   induction l with
   | nil=>intro prev i s seen _ _; rfl
   | cons a t ih =>
    intro prev i s seen hpv hsn
    simp only [walk,zaL8]
    cases hp:zc0 r a with
    | false=>simp
    | true =>
     have hb:=zaf5 hp
     by_cases h4:r.units < s+a.units
     ·simp [h4]; intro h; omega
     ·have h4':s+a.units≤r.units:=by omega
      simp only [Bool.true_eq_false,false_or,h4,if_false,h4',decide_true,Bool.true_and]
      by_cases h5:a.mode=0
      ·simp only [h5,if_true]
       rw [ih (prev++[a]) (i+1) (s+a.units) seen (by
        intro b hb'; rcases List.mem_append.1 hb' with h|h
        ·exact hpv b h
        ·simp at h; subst h; omega) (by
        intro k hk
        rw [hsn k hk,decide_eq_decide]
        constructor
        ·rintro ⟨b,h1,h2⟩; exact ⟨b,by simp [h1],h2⟩
        ·rintro ⟨b,h1,h2,h3⟩
         rcases List.mem_append.1 h1 with h|h
         ·exact ⟨b,h,h2,h3⟩
         ·simp at h; subst h; exact absurd h5 h2)]
       have:∀ b ∈ prev,¬ zaq9 b a:=fun b _ hc=>hc.2.1 h5
       rw [decide_eq_true this,Bool.true_and]
      ·simp only [h5,if_false]
       have hse:zaN9 seen a.mode=decide (∀ b ∈ prev,¬ zaq9 b a):=by
        rw [Bool.eq_iff_iff,decide_eq_true_eq]
        unfold zaN9
        simp only [List.all_eq_true,List.mem_range'_1,Bool.or_eq_true,Bool.not_eq_true']
        constructor
        ·intro hh b hb' ⟨c1,c2,c3⟩
         have hbb:=hpv b hb'
         rcases hh b.mode.toNat (by omega) with h|h
         ·rw [hsn _ (by omega)] at h
          simp only [decide_eq_false_iff_not,not_exists,not_and] at h
          exact h b hb' c1 (by omega)
         ·rw [show ((b.mode.toNat:Nat):Int)=b.mode by omega,c3] at h; cases h
        ·intro hh k hk
         rw [hsn k (by omega)]
         by_cases he:∃ b ∈ prev,b.mode≠0∧b.mode=(k:Int)
         ·obtain ⟨b,h1,h2,h3⟩:=he
          right
          rw [← h3]
          have:=hh b h1
          unfold zaq9 at this
          simp only [not_and,Bool.not_eq_false] at this
          exact this h2 h5
         ·left; simpa using he
       rw [hse]
       by_cases h7:∀ b ∈ prev,¬ zaq9 b a
       ·rw [decide_eq_true h7]
        simp only [if_true,Bool.true_and]
        rw [ih (prev++[a]) (i+1) (s+a.units) (seen.put a.mode.toNat true) (by
         intro b hb'; rcases List.mem_append.1 hb' with h|h
         ·exact hpv b h
         ·simp at h; subst h; omega) (by
         intro k hk
         rw [zcA5 seen a.mode.toNat k (by omega) hk,hsn k hk]
         by_cases hka:k=a.mode.toNat
         ·rw [if_pos hka]
          exact (decide_eq_true ⟨a,by simp,h5,by omega⟩).symm
         ·rw [if_neg hka,decide_eq_decide]
          constructor
          ·rintro ⟨b,h1,h2⟩; exact ⟨b,by simp [h1],h2⟩
          ·rintro ⟨b,h1,h2,h3⟩
           rcases List.mem_append.1 h1 with h|h
           ·exact ⟨b,h,h2,h3⟩
           ·simp at h; subst h; omega)]
       ·rw [decide_eq_false h7]; rfl
  have k2:=fold l [] 0 0 (Arr.rep 6 false) (by simp) (by
   intro k hk
   have:k=0∨k=1∨k=2∨k=3∨k=4∨k=5:=by omega
   rcases this with rfl|rfl|rfl|rfl|rfl|rfl <;> rfl)
  rw [show ((0,0,Arr.rep 6 false):Int×Int×Arr Bool 6)=(fun (i:Nat) (s:Int×Arr Bool 6)=>(s.1,(i:Int),s.2)) 0 (0,Arr.rep 6 false) from rfl,key,k2]
  rfl
theorem zaW8 (l:List Amount) (g:Int×Int) (h0:0≤g.2) (hl:g.2 < (l.length:Int)) (hll:l.length≤1000000):zb4 (zx7 l g) 0 =
  some (if (List.range' 0 g.2.toNat).all (fun k=>decide (l.getD g.2.toNat Amount.zero=Amount.zero)||(decide (l.getD k Amount.zero=Amount.zero)||mC (l.getD g.2.toNat Amount.zero).mode (l.getD k Amount.zero).mode))=true then .inl () else .inr false):=by
 have hz:∀ a:Amount,zi4 a=decide (a=Amount.zero):=fun _=>rfl
 have key:=zz6 (body:=zx7 l g) g.2.toNat (fun i=>if (decide (l.getD g.2.toNat Amount.zero=Amount.zero)||(decide (l.getD i Amount.zero=Amount.zero)||mC (l.getD g.2.toNat Amount.zero).mode (l.getD i Amount.zero).mode))=true then none else some (.inr false)) (.inl ()) (fun i hi=>by
  unfold zx7
  have h3:(i:Int) < g.2:=by omega
  have h4:IntKind.i64.wrap ((i:Int)+1)=(i:Int)+1:=zc4 (by omega) (by omega)
  have h5:0≤(i:Int)∧(i:Int) < (l.length:Int):=by omega
  simp only [h3,decide_true,if_true,Int.toNat_natCast,h4,h5.1,h5.2,h0,hl,and_self,implies_true,zx3,hz]
  cases decide (l.getD g.2.toNat Amount.zero=Amount.zero) <;> cases decide (l.getD i Amount.zero=Amount.zero) <;> cases hm:zz7 (l.getD g.2.toNat Amount.zero).mode (l.getD i Amount.zero).mode <;> simp only [mC,hm] <;> rfl) (by unfold zx7; rw [if_neg]; simp; omega)
 rw [key,zJ7]
 split <;> simp_all
theorem zaK9 (r:Resource) (l:List Amount) (hl:l.length≤1000000):zm9 r l=some (zba0 r l):=by
 unfold zm9
 rw [zax8]
 cases hs:ze4 r with
 | false=>simp [zba0,hs]
 | true =>
  have hru:1≤r.units∧r.units≤8∧(r.kind=1∨r.kind=2):=by rw [zU4] at hs; omega
  rw [zbE1 r l hs]
  simp only [Bool.not_true,Bool.false_eq_true,if_false]
  have key:=zv5 (body:=zE7 r l) l Amount.zero (fun i (s:Int)=>(s,(i:Int)))
   (fun i a s=>some (if zc0 r a=false then .inr (.inr false) else if r.kind=2 then (if r.units < s+a.units then .inr (.inr false) else .inl (s+a.units)) else
    if (List.range' 0 i).all (fun k=>decide (a=Amount.zero)||(decide (l.getD k Amount.zero=Amount.zero)||mC a.mode (l.getD k Amount.zero).mode))=true then .inl s else .inr (.inr false))) (fun _=>Sum.inl (β:=Bool) ()) (fun i s=>0≤s∧s≤8)
   (fun i s hi hi2=>by
    refine ⟨?_,fun s' h=>?_⟩
    ·unfold zE7
     have h3:0≤(i:Int)∧(i:Int) < (l.length:Int):=by omega
     simp only [h3.1,h3.2,and_self,zx3,decide_true,if_true,Int.toNat_natCast,ze6 i (by omega),Option.map_some,zbN6,zaW8 l (s,(i:Int)) h3.1 h3.2 hl]
     cases hp:zc0 r (l.getD i Amount.zero) with
     | false=>simp [wmap]
     | true =>
      have hb:=zaf5 hp
      have hw:IntKind.i64.wrap (s+(l.getD i Amount.zero).units)=s+(l.getD i Amount.zero).units:=zc4 (by omega) (by omega)
      simp only [hw,Bool.not_true,Bool.false_eq_true,if_false,Bool.true_eq_false,decide_eq_true_eq]
      by_cases h4:r.kind=2
      ·by_cases h5:r.units < s+(l.getD i Amount.zero).units
       ·simp only [h4,h5,if_true,wmap]
       ·simp only [h4,h5,if_true,if_false,wmap]
      ·simp only [h4,if_false]
       split
       ·simp only [zN1,wmap,ze6 i (by omega:i < 4611686018427387904),Option.bind_some]
       ·simp only [wmap,Option.bind_some]
    ·simp only [Option.some.injEq] at h
     split at h
     ·cases h
     ·rename_i hn
      simp only [Bool.not_eq_false] at hn
      have hb:=zaf5 hn
      split at h
      ·split at h
       ·cases h
       ·cases h; omega
      ·split at h
       ·cases h; exact hi2
       ·cases h)
   (fun s hs=>by unfold zE7; simp) 0 (by simp)
  have fold:∀ (t prev:List Amount) (s:Int),l=prev++t→(∀ b ∈ prev,zc0 r b=true)→(r.kind=1→s=0)→s≤r.units →
    walk (fun i a (s:Int)=>some (if zc0 r a=false then .inr (.inr false) else if r.kind=2 then (if r.units < s+a.units then .inr (.inr false) else .inl (s+a.units)) else
     if (List.range' 0 i).all (fun k=>decide (a=Amount.zero)||(decide (l.getD k Amount.zero=Amount.zero)||mC a.mode (l.getD k Amount.zero).mode))=true then .inl s else .inr (.inr false))) (fun _=>Sum.inl (β:=Bool) ()) t prev.length s=some (if zaL8 r t prev s=true then .inl () else .inr false):=by
   intro t
   induction t with
   | nil=>intro prev s _ _ _ _; rfl
   | cons a t ih =>
    intro prev s hlt hpp hs0 hsu
    simp only [walk,zaL8]
    by_cases hp:zc0 r a=true
    ·have hpp':∀ b ∈ prev++[a],zc0 r b=true:=fun b hb=>by
      rcases List.mem_append.1 hb with h|h
      ·exact hpp b h
      ·simp at h; subst h; exact hp
     have hlt':l=(prev++[a])++t:=by rw [hlt]; simp
     have hlen:(prev++[a]).length=prev.length+1:=by simp
     rcases hru.2.2 with hk|hk
     ·
      have ha:=zbu5 hp hk
      have hs:=hs0 hk
      subst hs
      have hk2:¬ r.kind=2:=by omega
      have hsum:(0:Int)+a.units≤r.units:=by omega
      simp only [hp,Bool.true_eq_false,if_false,hk2,hsum,decide_true,Bool.true_and]
      have hall:(List.range' 0 prev.length).all (fun k=>decide (a=Amount.zero)||(decide (l.getD k Amount.zero=Amount.zero)||mC a.mode (l.getD k Amount.zero).mode))=decide (∀ b ∈ prev,¬ zaq9 b a):=by
       rw [Bool.eq_iff_iff,decide_eq_true_eq]
       simp only [List.all_eq_true,List.mem_range'_1,Bool.or_eq_true,decide_eq_true_eq]
       have hget:∀ k,k < prev.length→l.getD k Amount.zero=prev.getD k Amount.zero:=fun k hk=>by rw [hlt,zbR0 _ _ _ _ hk]
       have hmem:∀ k,k < prev.length→prev.getD k Amount.zero ∈ prev:=fun k hk=>by
        rw [List.getD_eq_getElem?_getD,List.getElem?_eq_getElem hk]; exact List.getElem_mem hk
       have zar2:∀ b,zc0 r b=true→(b=Amount.zero ↔ b.mode=0):=fun b hb=>by
        have:=zbu5 hb hk
        rw [Amount.ext_iff]; simp [Amount.zero]; omega
       constructor
       ·intro hh b hb ⟨c1,c2,c3⟩
        obtain ⟨k,hk1,hk2⟩:=List.mem_iff_getElem.1 hb
        have e:prev.getD k Amount.zero=b:=by rw [List.getD_eq_getElem?_getD,List.getElem?_eq_getElem hk1,Option.getD_some,hk2]
        rcases hh k (by omega) with h|h|h
        ·exact c2 ((zar2 a hp).1 h)
        ·rw [hget k hk1,e] at h; exact c1 ((zar2 b (hpp b hb)).1 h)
        ·rw [hget k hk1,e,zbN7,c3] at h; cases h
       ·intro hh k hk1
        have hk2:k < prev.length:=by omega
        rw [hget k hk2]
        have h1:=hh _ (hmem k hk2)
        have h2:=hpp _ (hmem k hk2)
        unfold zaq9 at h1
        rw [zar2 a hp,zar2 _ h2]
        by_cases e1:a.mode=0
        ·exact .inl e1
        ·by_cases e2:(prev.getD k Amount.zero).mode=0
         ·exact .inr (.inl e2)
         ·refine .inr (.inr ?_)
          rw [zbN7]
          simp only [not_and,Bool.not_eq_false] at h1
          exact h1 e2 e1
      rw [hall]
      by_cases h7:∀ b ∈ prev,¬ zaq9 b a
      ·rw [decide_eq_true h7]
       simp only [if_true,Bool.true_and]
       have:=ih (prev++[a]) 0 hlt' hpp' (fun _=>rfl) (by omega)
       rw [hlen] at this
       simp only [hk2,if_false] at this
       rw [this,ha.1]; rfl
      ·rw [decide_eq_false h7]; rfl
     ·
      have ha:=zbR1 hp hk
      simp only [hp,Bool.true_eq_false,if_false,hk,if_true,Bool.true_and]
      have h7:∀ b ∈ prev,¬ zaq9 b a:=fun b _ hc=>hc.2.1 ha.1
      by_cases h5:r.units < s+a.units
      ·have:¬ s+a.units≤r.units:=by omega
       simp [h5,this]
      ·have:s+a.units≤r.units:=by omega
       rw [decide_eq_true h7]
       simp only [h5,if_false,this,decide_true,Bool.true_and]
       have h8:=ih (prev++[a]) (s+a.units) hlt' hpp' (fun h=>by omega) this
       rw [hlen] at h8
       simp only [hk,if_true] at h8
       exact h8
    ·simp [hp]
  rw [show ((0,0):Int×Int)=(fun (i:Nat) (s:Int)=>(s,(i:Int))) 0 0 from rfl,key]
  have k2:=fold l [] 0 rfl (by simp) (fun _=>rfl) (by omega)
  rw [List.length_nil] at k2
  rw [k2]
  cases zaL8 r l [] 0 <;> rfl
end Ab
end Go.Proofs.YtebopmkhhppfaaaGreatDoor
namespace Go.Proofs.YtebopmkhhppfaaaGreatDoor
namespace Ab
set_option linter.unusedVariables false
set_option linter.unusedSimpArgs false
structure GoodP (r:Resource) (l:List Hold):Prop where
 each:∀ h ∈ l,za9 h.proc=true∧zb7 r h.amount=true
 asc:l.Pairwise fun a b=>ltP a.proc b.proc
instance (r:Resource) (l:List Hold):Decidable (GoodP r l) :=
 decidable_of_iff ((∀ h ∈ l,za9 h.proc=true∧zb7 r h.amount=true)∧l.Pairwise fun a b=>ltP a.proc b.proc) ⟨fun ⟨a,b⟩=>⟨a,b⟩,fun ⟨a,b⟩=>⟨a,b⟩⟩
def zY6 (r:Resource) (l:List Hold):Bool:=ze4 r&&(decide (l.length≤8)&&(decide (GoodP r l)&&decide (CompP r (l.map (·.amount)))))
def zaf6 (r:Resource):List Hold→Option Proc→Bool
 | [],_=>true
 | h :: t,pv=>za9 h.proc&&(zb7 r h.amount&&((match pv with|none=>true|some q=>decide (ltP q h.proc))&&zaf6 r t (some h.proc)))
theorem zaW9 (r:Resource):∀ (l:List Hold) (pv:Option Proc),zaf6 r l pv=true ↔ GoodP r l∧∀ q,pv=some q→∀ h ∈ l,ltP q h.proc
 | [],pv=>by
  simp only [zaf6,List.not_mem_nil,false_implies,implies_true,and_true,true_iff]
  exact ⟨by simp,.nil⟩
 | h :: t,pv=>by
  simp only [zaf6,Bool.and_eq_true]
  rw [zaW9 r t (some h.proc)]
  constructor
  ·rintro ⟨h1,h2,h3,⟨h4,h5⟩,h6⟩
   refine ⟨⟨fun x hx=>?_,List.pairwise_cons.2 ⟨fun x hx=>h6 _ rfl x hx,h5⟩⟩,fun q hq x hx=>?_⟩
   ·rcases List.mem_cons.1 hx with rfl|hx
    ·exact ⟨h1,h2⟩
    ·exact h4 x hx
   ·subst hq
    simp only [decide_eq_true_eq] at h3
    rcases List.mem_cons.1 hx with rfl|hx
    ·exact h3
    ·exact zax7 h3 (h6 _ rfl x hx)
  ·rintro ⟨⟨h1,h2⟩,h3⟩
   rw [List.pairwise_cons] at h2
   refine ⟨(h1 h (.head _)).1,(h1 h (.head _)).2,?_,⟨fun x hx=>h1 x (.tail _ hx),h2.2⟩,fun q hq x hx=>by cases hq; exact h2.1 x hx⟩
   cases pv with
   | none=>rfl
   | some q=>exact decide_eq_true (h3 q rfl h (.head _))
theorem zaj5 (r:Resource) (l:List Hold):zl6 r l=some (zY6 r l):=by
 unfold zl6 zY6
 cases hs:ze4 r with
 | false=>simp
 | true =>
  by_cases h8:8 < (l.length:Int)
  ·have:¬ l.length≤8:=by omega
   simp [h8,this]
  ·have hl8:l.length≤8:=by omega
   simp only [Bool.not_true,Bool.false_or,h8,decide_false,Bool.false_eq_true,if_false,hl8,decide_true,Bool.true_and]
   have key:=zv5 (body:=zM4 r l) l Hold.zero (fun i (s:List Amount)=>((i:Int),s))
    (fun i h s=>some (if za9 h.proc=true∧zb7 r h.amount=true∧(i=0∨ltP (l.getD (i - 1) Hold.zero).proc h.proc) then .inl (s++[h.amount]) else .inr (.inr false))) (fun s=>Sum.inl (β:=Bool) s) (fun i s=>s.length≤i)
    (fun i s hi hs=>by
     refine ⟨?_,fun s' h=>?_⟩
     ·unfold zM4
      have h1:s.length+1≤4294967296:=by omega
      have h3:0≤(i:Int)∧(i:Int) < (l.length:Int):=by omega
      simp only [h1,h3.1,h3.2,and_self,zx3,decide_true,if_true,Int.toNat_natCast,zab2,ze6 i (by omega),Option.map_some,decide_eq_true_eq,Bool.and_eq_true,Bool.or_eq_true,Bool.not_eq_true']
      by_cases e1:za9 (l.getD i Hold.zero).proc=false∨zb7 r (l.getD i Hold.zero).amount=false
      ·rw [if_pos e1,if_neg (by rintro ⟨k1,k2,_⟩; rcases e1 with e|e <;> simp_all)]; rfl
      ·rw [if_neg e1]
       simp only [not_or,Bool.not_eq_false] at e1
       by_cases e2:i=0
       ·subst e2
        rw [gdp (by omega)]
        simp only [Int.natCast_zero,Int.lt_irrefl,if_false,Option.bind_some,false_and,e1,and_self,true_or,if_true,wmap]
       ·have w:IntKind.i64.wrap ((i:Int) - 1)=((i - 1:Nat):Int):=zaw3 i (by omega) (by omega)
        rw [gdp (by rw [w]; omega)]
        simp only [w,Int.toNat_natCast,show (0:Int) < (i:Int) by omega,if_true,Option.bind_some,true_and,zaZ9,e1,e2,false_or]
        by_cases e3:ltP (l.getD (i - 1) Hold.zero).proc (l.getD i Hold.zero).proc
        ·simp only [e3,not_true,if_false,if_true,wmap]
        ·simp only [e3,not_false_eq_true,if_true,if_false,wmap]
     ·simp only [Option.some.injEq] at h
      split at h
      ·cases h; simp; omega
      ·cases h)
    (fun s hs=>by unfold zM4; simp) [] (by simp)
   have fold:∀ (t prev:List Hold) (s:List Amount),l=prev++t →
     walk (fun i h (s:List Amount)=>some (if za9 h.proc=true∧zb7 r h.amount=true∧(i=0∨ltP (l.getD (i - 1) Hold.zero).proc h.proc) then .inl (s++[h.amount]) else .inr (.inr false))) (fun s=>Sum.inl (β:=Bool) s) t prev.length s =
      some (if zaf6 r t (prev.getLast?.map (·.proc))=true then .inl (s++t.map (·.amount)) else .inr false):=by
    intro t
    induction t with
    | nil=>intro prev s _; simp [walk,zaf6]
    | cons h t ih =>
     intro prev s hlt
     simp only [walk]
     have hq:(prev.length=0∨ltP (l.getD (prev.length - 1) Hold.zero).proc h.proc) ↔ (match prev.getLast?.map (·.proc) with|none=>true|some q=>decide (ltP q h.proc))=true:=by
      rcases List.eq_nil_or_concat prev with rfl|⟨pp,x,rfl⟩
      ·simp
      ·have:(l.getD ((pp.concat x).length - 1) Hold.zero)=x:=by
        rw [hlt]; simp [List.getD_eq_getElem?_getD]
       rw [this]; simp
     by_cases e:za9 h.proc=true∧zb7 r h.amount=true∧(prev.length=0∨ltP (l.getD (prev.length - 1) Hold.zero).proc h.proc)
     ·rw [if_pos e]
      have:=ih (prev++[h]) (s++[h.amount]) (by rw [hlt]; simp)
      rw [show (prev++[h]).length=prev.length+1 by simp] at this
      simp only
      have ht:zaf6 r (h :: t) (prev.getLast?.map (·.proc))=zaf6 r t (some h.proc):=by simp only [zaf6,e.1,e.2.1,hq.1 e.2.2,Bool.true_and]
      rw [this,ht]
      simp
     ·rw [if_neg e]
      rw [hq] at e
      have hf:zaf6 r (h :: t) (prev.getLast?.map (·.proc))=false:=by
       rw [Bool.eq_false_iff]
       intro hh
       simp only [zaf6,Bool.and_eq_true] at hh
       exact e ⟨hh.1,hh.2.1,hh.2.2.1⟩
      rw [hf]; rfl
   have k2:=fold l [] [] rfl
   rw [List.length_nil] at k2
   rw [show ((0,[]):Int×List Amount)=(fun (i:Nat) (s:List Amount)=>((i:Int),s)) 0 [] from rfl,key,k2]
   have hg:=zaW9 r l none
   by_cases e:zaf6 r l none=true
   ·have hgp:GoodP r l:=(hg.1 e).1
    rw [if_pos (by simpa using e)]
    simp only [Option.bind_some,zS8,List.nil_append]
    rw [zaG9 r _ (by simp; omega)]
    simp [zba0,hs,hgp]
   ·have hgp:¬ GoodP r l:=fun h=>e (hg.2 ⟨h,by simp⟩)
    rw [if_neg (by simpa using e)]
    simp [hgp]
theorem zaX0 (l:List Hold) (hl:l.length≤1000000):zr7 l=some (l.map (·.amount)):=by
 unfold zr7
 have key:=zv5 (body:=zM6 l) l Hold.zero (fun i (s:List Amount)=>((i:Int),s)) (fun i h s=>some (.inl (zaw4 s (some h.amount)))) (fun s=>s) (fun i s=>s.length≤i)
  (fun i s hi hs=>by
   refine ⟨?_,fun s' h=>?_⟩
   ·unfold zM6
    have h1:s.length+1≤4294967296:=by omega
    have h3:0≤(i:Int)∧(i:Int) < (l.length:Int):=by omega
    simp only [h1,h3.1,h3.2,and_self,zx3,decide_true,if_true,Int.toNat_natCast,ze6 i (by omega),Option.map_some,wmap,zaw4]
   ·simp only [Option.some.injEq,Sum.inl.injEq] at h; subst h; simp [zaw4]; omega)
  (fun s hs=>by unfold zM6; simp) [] (by simp)
 rw [show ((0,[]):Int×List Amount)=(fun (i:Nat) (s:List Amount)=>((i:Int),s)) 0 [] from rfl,key,zaw5 (fun h:Hold=>some h.amount)]
 simp [zT1]
theorem zar0 (r:Resource) (l:List Hold):zs7 r l=some (zY6 r l):=by
 unfold zs7 zY6
 rw [zax8]
 cases hs:ze4 r with
 | false=>simp
 | true =>
  by_cases h8:8 < (l.length:Int)
  ·have:¬ l.length≤8:=by omega
   simp [h8,this]
  ·have hl8:l.length≤8:=by omega
   simp only [Bool.not_true,Bool.false_or,h8,decide_false,Bool.false_eq_true,if_false,hl8,decide_true,Bool.true_and]
   have key:=zv5 (body:=zR7 r l) l Hold.zero (fun i (_:Unit)=>(i:Int))
    (fun i h _=>some (if za9 h.proc=true∧zb7 r h.amount=true∧(i=0∨ltP (l.getD (i - 1) Hold.zero).proc h.proc) then .inl () else .inr (.inr false))) (fun _=>Sum.inl (β:=Bool) ()) (fun i s=>True)
    (fun i s hi _=>by
     refine ⟨?_,fun _ _=>trivial⟩
     unfold zR7
     have h3:0≤(i:Int)∧(i:Int) < (l.length:Int):=by omega
     simp only [h3.1,h3.2,and_self,implies_true,zx3,decide_true,if_true,Int.toNat_natCast,ze6 i (by omega),Option.map_some,zax9,zaS3]
     by_cases e2:i=0
     ·subst e2
      rw [gdp (by simp)]
      by_cases e1:za9 (l.getD 0 Hold.zero).proc=true
      ·by_cases e3:zb7 r (l.getD 0 Hold.zero).amount=true
       ·simp only [e1,e3]; simp [wmap]
       ·simp only [e1,e3]; simp [wmap]
      ·simp only [e1]; simp [wmap]
     ·have w:IntKind.i64.wrap ((i:Int) - 1)=((i - 1:Nat):Int):=zaw3 i (by omega) (by omega)
      rw [gdp (fun _=>by rw [w]; omega)]
      simp only [w,Int.toNat_natCast,show (0:Int) < (i:Int) by omega,decide_true,Bool.true_and,zaZ9,e2,false_or]
      by_cases e1:za9 (l.getD i Hold.zero).proc=true
      ·by_cases e3:zb7 r (l.getD i Hold.zero).amount=true
       ·by_cases e4:ltP (l.getD (i - 1) Hold.zero).proc (l.getD i Hold.zero).proc
        ·simp only [e1,e3,e4]; simp [wmap]
        ·simp only [e1,e3,e4]; simp [wmap]
       ·simp only [e1,e3]; simp [wmap]
      ·simp only [e1]; simp [wmap])
    (fun s hs=>by unfold zR7; simp) () trivial
   have fold:∀ (t prev:List Hold),l=prev++t →
     walk (fun i h (_:Unit)=>some (if za9 h.proc=true∧zb7 r h.amount=true∧(i=0∨ltP (l.getD (i - 1) Hold.zero).proc h.proc) then .inl () else .inr (.inr false))) (fun _=>Sum.inl (β:=Bool) ()) t prev.length () =
      some (if zaf6 r t (prev.getLast?.map (·.proc))=true then .inl () else .inr false):=by
    intro t
    induction t with
    | nil=>intro prev _; simp [walk,zaf6]
    | cons h t ih =>
     intro prev hlt
     simp only [walk]
     have hq:(prev.length=0∨ltP (l.getD (prev.length - 1) Hold.zero).proc h.proc) ↔ (match prev.getLast?.map (·.proc) with|none=>true|some q=>decide (ltP q h.proc))=true:=by
      rcases List.eq_nil_or_concat prev with rfl|⟨pp,x,rfl⟩
      ·simp
      ·have:(l.getD ((pp.concat x).length - 1) Hold.zero)=x:=by
        rw [hlt]; simp [List.getD_eq_getElem?_getD]
       rw [this]; simp
     by_cases e:za9 h.proc=true∧zb7 r h.amount=true∧(prev.length=0∨ltP (l.getD (prev.length - 1) Hold.zero).proc h.proc)
     ·rw [if_pos e]
      have:=ih (prev++[h]) (by rw [hlt]; simp)
      rw [show (prev++[h]).length=prev.length+1 by simp] at this
      simp only
      have ht:zaf6 r (h :: t) (prev.getLast?.map (·.proc))=zaf6 r t (some h.proc):=by simp only [zaf6,e.1,e.2.1,hq.1 e.2.2,Bool.true_and]
      rw [this,ht]
      simp
     ·rw [if_neg e]
      rw [hq] at e
      have hf:zaf6 r (h :: t) (prev.getLast?.map (·.proc))=false:=by
       rw [Bool.eq_false_iff]
       intro hh
       simp only [zaf6,Bool.and_eq_true] at hh
       exact e ⟨hh.1,hh.2.1,hh.2.2.1⟩
      rw [hf]; rfl
   have k2:=fold l [] rfl
   rw [List.length_nil] at k2
   rw [show (0:Int)=(fun (i:Nat) (_:Unit)=>(i:Int)) 0 () from rfl,key,k2]
   have hg:=zaW9 r l none
   by_cases e:zaf6 r l none=true
   ·have hgp:GoodP r l:=(hg.1 e).1
    rw [if_pos (by simpa using e)]
    simp only [Option.bind_some,zZ3]
    rw [zaX0 l (by omega),Option.bind_some,zaK9 r _ (by simp; omega)]
    simp [zba0,hs,hgp]
   ·have hgp:¬ GoodP r l:=fun h=>e (hg.2 ⟨h,by simp⟩)
    rw [if_neg (by simpa using e)]
    simp [hgp]
theorem zar1 {r:Resource} {l:List Hold} (h:zY6 r l=true):l.length≤8:=by
 unfold zY6 at h; simp at h; exact h.2.1
def zak3 (r:Resource) (l:List Hold) (p:Proc) (a:Amount):Bool:=zY6 r l&&(za9 p&&zb7 r a)
def zba1 (r:Resource) (l:List Hold) (p:Proc) (a:Amount):Bool:=zak3 r l p a&&zY6 r (setL l p a)
theorem zbR2 (r:Resource) (l:List Hold) (p:Proc) (a:Amount):zo1 r l p a=some (zak3 r l p a):=by
 unfold zo1 zak3
 rw [zaj5,Option.bind_some,Bool.and_assoc]
theorem zcA6 (r:Resource) (l:List Hold) (p:Proc) (a:Amount):zr5 r l p a=some (zba1 r l p a):=by
 unfold zr5 zba1
 rw [zbR2,Option.bind_some]
 cases h:zak3 r l p a with
 | false=>simp
 | true =>
  have hv:zY6 r l=true:=by unfold zak3 at h; simp at h; exact h.1
  simp only [if_true]
  rw [zbk2 l p a (by have:=zar1 hv; omega),Option.bind_some,zaj5]
  simp
theorem zbE2 (r:Resource) (l:List Hold) (p:Proc) (a:Amount):zG8 r l p a=some (zba1 r l p a):=by
 unfold zG8 zba1
 rw [zar0,Option.bind_some,zax9,zaS3,Bool.and_assoc]
 change ((if zak3 r l p a=true then _ else _):Option (List Hold)).bind _=_
 cases h:zak3 r l p a with
 | false=>unfold zak3 at h; simp [h]
 | true =>
  have hv:zY6 r l=true:=by unfold zak3 at h; simp at h; exact h.1
  unfold zak3 at h
  simp only [h,if_true]
  rw [zbz2 l p a (by have:=zar1 hv; omega),Option.bind_some,zar0]
  simp
end Ab
end Go.Proofs.YtebopmkhhppfaaaGreatDoor
namespace Go.Proofs.YtebopmkhhppfaaaGreatDoor
namespace Ab
set_option linter.unusedVariables false
set_option linter.unusedSimpArgs false
def zaH0 (p:Proc):List Wait→Nat→Option Nat
 | [],_=>none
 | w :: l,i=>if w.proc=p then some i else zaH0 p l (i+1)
def zal9 (l:List Wait) (p:Proc):Int:=match zaH0 p l 0 with
 | some i=>i
 | none=>-1
theorem zba2 (l:List Wait) (p:Proc):∀ k i,i+k=l.length→zH4 (fun i=>if (l.getD i Wait.zero).proc=p then some (i:Int) else none) k i=(zaH0 p (l.drop i) i).map fun n:Nat=>(n:Int)
 | 0,i,h=>by rw [List.drop_eq_nil_of_le (by omega)]; rfl
 | k+1,i,h=>by
  rw [zao8 l i Wait.zero (by omega)]
  simp only [zH4,zaH0]
  by_cases hp:(l.getD i Wait.zero).proc=p
  ·simp only [hp,if_true,Option.map_some]
  ·simp only [hp,if_false]
   exact zba2 l p k (i+1) (by omega)
theorem zao3 (l:List Wait) (p:Proc) (hl:l.length < 4611686018427387904):zt9 l p=some (zal9 l p):=by
 unfold zt9
 have key:zb4 (zX3 l p) 0=some ((zH4 (fun i=>if (l.getD i Wait.zero).proc=p then some (Sum.inr (i:Int)) else none) l.length 0).getD (Sum.inl ())):=by
  refine zz6 l.length _ (Sum.inl ()) (fun i hi=>?_) ?_
  ·unfold zX3
   rw [if_pos (by simpa using hi),zg6 (by omega)]
   simp only [Int.toNat_natCast,decide_eq_true_eq]
   split
   ·rfl
   ·rw [zc4 (by omega) (by omega)]
  ·unfold zX3
   rw [if_neg (by simp)]
 rw [key]
 have h2:=zba2 l p l.length 0 (by omega)
 have h3:∀ k i,zH4 (fun i=>if (l.getD i Wait.zero).proc=p then some (Sum.inr (α:=Unit) (i:Int)) else none) k i=(zH4 (fun i=>if (l.getD i Wait.zero).proc=p then some (i:Int) else none) k i).map Sum.inr:=by
  intro k
  induction k with
  | zero=>intro i; rfl
  | succ k ih =>
   intro i
   simp only [zH4]
   by_cases hp:(l.getD i Wait.zero).proc=p
   ·simp only [hp,if_true,Option.map_some]
   ·simp only [hp,if_false,ih]
 rw [h3,h2,List.drop_zero]
 unfold zal9
 cases zaH0 p l 0 <;> rfl
theorem zaL9 (l:List Wait) (p:Proc) (hl:l.length < 4611686018427387904):zz3 l p=some (zal9 l p):=by
 have e:zz3 l p=zt9 l p:=rfl
 rw [e]; exact zao3 l p hl
theorem zaS4 (w:Wait):zt6 w=zj9 w:=by
 unfold zt6 zj9 ze3 za9 zu3 zq6 zb7 ze4 zq8 zm2
 rw [Bool.eq_iff_iff]
 simp
 omega
def zah6 (l:List Wait):Bool:=decide (l.length≤8)&&(List.range l.length).all fun i=>zj9 (l.getD i Wait.zero)&&decide (zal9 l (l.getD i Wait.zero).proc=i)
theorem zaM0 (l:List Wait):zw0 l=some (zah6 l):=by
 unfold zw0 zah6
 by_cases h8:8 < (l.length:Int)
 ·rw [if_pos (by simpa using h8)]
  have:¬ l.length≤8:=by omega
  simp [this]
 ·rw [if_neg (by simpa using h8)]
  have hl:l.length < 4611686018427387904:=by omega
  have key:zb4 (zJ8 l) 0=some ((zH4 (fun i=>if (zj9 (l.getD i Wait.zero)&&decide (zal9 l (l.getD i Wait.zero).proc=i))=true then none else some (Sum.inr false)) l.length 0).getD (Sum.inl ())):=by
   refine zz6 l.length _ (Sum.inl ()) (fun i hi=>?_) ?_
   ·unfold zJ8
    rw [if_pos (by simpa using hi),zg6 (by omega)]
    simp only [Int.toNat_natCast]
    by_cases hv:zj9 (l.getD i Wait.zero)=true
    ·simp only [hv,if_true,zao3 l _ hl,Option.bind_some,Bool.not_true,Bool.false_or,Bool.true_and]
     by_cases hf:zal9 l (l.getD i Wait.zero).proc=(i:Int)
     ·simp only [hf,decide_true,Bool.not_true,Bool.false_eq_true,if_false,if_true]
      rw [zc4 (by omega) (by omega)]
     ·simp only [hf,decide_false,Bool.not_false,if_true,Bool.false_eq_true,if_false]
    ·have hv:zj9 (l.getD i Wait.zero)=false:=by simpa using hv
     simp only [hv,Bool.false_eq_true,if_false,Option.bind_some,Bool.not_false,Bool.true_or,if_true,Bool.false_and]
   ·unfold zJ8
    rw [if_neg (by simp)]
  rw [key,zJ7,← List.range_eq_range']
  have:l.length≤8:=by omega
  simp only [this,decide_true,Bool.true_and]
  cases (List.range l.length).all fun i=>zj9 (l.getD i Wait.zero)&&decide (zal9 l (l.getD i Wait.zero).proc=i) <;> rfl
theorem zbk4 (l:List Wait):zy0 l=some (zah6 l):=by
 rw [← zaM0 l]
 unfold zy0 zw0
 by_cases h8:8 < (l.length:Int)
 ·rw [if_pos (decide_eq_true h8),if_pos (decide_eq_true h8)]
 ·rw [if_neg (by simpa using h8),if_neg (by simpa using h8)]
  have hl:l.length < 4611686018427387904:=by omega
  have e:zZ4 l=zJ8 l:=funext fun i=>by
   unfold zZ4 zJ8
   by_cases hi:i < (l.length:Int)
   ·rw [if_pos (decide_eq_true hi),if_pos (decide_eq_true hi)]
    by_cases h0:0≤i∧i < (l.length:Int)
    ·rw [zg6 h0,zg6 h0,zg6 (fun _=>h0)]
     simp only [zaS4,zaL9 l _ hl,zao3 l _ hl]
    ·unfold gd; rw [if_neg h0,if_neg h0]
   ·rw [if_neg (by simpa using hi)]; rw [if_neg (by simpa using hi)]
  rw [e]
  rfl
theorem zbk5 {l:List Wait} (h:zah6 l=true):l.length≤8:=by
 simp only [zah6,Bool.and_eq_true,decide_eq_true_eq] at h; exact h.1
theorem zaS5 (a b:List Wait) (hl:a.length < 4611686018427387904):zt7 a b=some (decide (a=b)):=by
 unfold zt7
 by_cases h:a.length=b.length
 ·rw [if_neg (by simp [h])]
  exact zbu2 a b Wait.zero hl h fun i=>rfl
 ·rw [if_pos (by simp; omega)]
  have:a≠b:=fun e=>h (by rw [e])
  simp [this]
end Ab
end Go.Proofs.YtebopmkhhppfaaaGreatDoor
namespace Go.Proofs.YtebopmkhhppfaaaGreatDoor
namespace Ab
set_option linter.unusedVariables false
set_option linter.unusedSimpArgs false
theorem zbE3 (s:ByteArray):zF7 s=zw2 s:=by
 unfold zF7 zw2 zp5
 generalize (s.toList == _)=a
 generalize (s.toList == _)=b
 generalize (s.toList == _)=c
 generalize (s.toList == _)=d
 generalize (s.toList == _)=e
 cases a <;> cases b <;> cases c <;> cases d <;> cases e <;> rfl
def chI (s:ByteArray) (i:Nat):Int:=((s.toList.getD i 0).toNat:Int)
def okC (s:ByteArray) (i:Nat):Bool:=zC6 (chI s i)||(!decide (i=0)&&zt5 (chI s i))
theorem zaS6 (s:ByteArray) (hl:s.size≤12):zb4 (zv8 s) 0=some (if (List.range s.size).all (okC s)=true then .inl () else .inr false):=by
 have key:zb4 (zv8 s) 0=some ((zH4 (fun i=>if okC s i=true then none else some (Sum.inr false)) s.size 0).getD (Sum.inl ())):=by
  refine zz6 s.size _ (Sum.inl ()) (fun i hi=>?_) ?_
  ·unfold zv8
   rw [if_pos (by simpa using hi),zg6 (by omega),zc4 (by omega) (by omega)]
   simp only [Int.toNat_natCast]
   have e:((!((decide (97≤((s.toList.getD i 0).toNat:Int)))&&(decide (((s.toList.getD i 0).toNat:Int)≤122))))&&((decide ((i:Int)=0))||(!((((decide (48≤((s.toList.getD i 0).toNat:Int)))&&(decide (((s.toList.getD i 0).toNat:Int)≤57)))||(decide (((s.toList.getD i 0).toNat:Int)=95)))||(decide (((s.toList.getD i 0).toNat:Int)=45))))))=!okC s i:=by
    unfold okC zt5 zC6 chI
    generalize ((s.toList.getD i 0).toNat:Int)=c
    rw [Bool.eq_iff_iff]
    simp
    omega
   cases hk:okC s i
   ·rw [hk] at e; exact if_pos e
   ·rw [hk] at e; exact if_neg (by rw [show _=false from e]; decide)
  ·unfold zv8
   rw [if_neg (by simp)]
 rw [key,zJ7,← List.range_eq_range']
 cases (List.range s.size).all (okC s) <;> rfl
theorem zbb9 (s:ByteArray) (hl:s.size≤12):zb4 (zA3 s) 0=some (if (List.range s.size).all (fun i=>zt5 (chI s i))=true then .inl () else .inr false):=by
 have key:zb4 (zA3 s) 0=some ((zH4 (fun i=>if zt5 (chI s i)=true then none else some (Sum.inr false)) s.size 0).getD (Sum.inl ())):=by
  refine zz6 s.size _ (Sum.inl ()) (fun i hi=>?_) ?_
  ·unfold zA3
   rw [if_pos (by simpa using hi),zg6 (by omega),zc4 (by omega) (by omega)]
   simp only [Int.toNat_natCast]
   show (if (!zt5 (chI s i))=true then _ else _)=_
   cases zt5 (chI s i) <;> rfl
  ·unfold zA3
   rw [if_neg (by simp)]
 rw [key,zJ7,← List.range_eq_range']
 cases (List.range s.size).all (fun i=>zt5 (chI s i)) <;> rfl
def zN6 (s:ByteArray):Bool:=decide (1≤s.size)&&(decide (s.size≤12)&&(!zw2 s&&(List.range s.size).all (okC s)))
theorem zaC9 (s:ByteArray):zh9 s=some (zN6 s):=by
 unfold zh9 zN6
 rw [zbE3]
 by_cases h1:s.size < 1
 ·have:¬ 1≤s.size:=by omega
  rw [if_pos (by simp; omega)]
  simp [this]
 by_cases h2:12 < s.size
 ·have:¬ s.size≤12:=by omega
  rw [if_pos (by simp; omega)]
  simp [this]
 cases hr:zw2 s
 ·rw [if_neg (by simp; omega),zaS6 s (by omega)]
  have a1:1≤s.size:=by omega
  have a2:s.size≤12:=by omega
  simp only [a1,a2,decide_true,Bool.true_and,Bool.not_false]
  cases (List.range s.size).all (okC s) <;> rfl
 ·rw [if_pos (by simp)]
  simp
theorem zav2 (s:ByteArray):zk7 s=some (zN6 s):=by
 unfold zk7 zN6
 by_cases h1:s.size < 1
 ·have:¬ 1≤s.size:=by omega
  rw [zg6 (by simp; omega),if_pos (by simp; omega)]
  simp [this]
 by_cases h2:12 < s.size
 ·have:¬ s.size≤12:=by omega
  rw [zg6 (by simp; omega),if_pos (by simp; omega)]
  simp [this]
 have a1:1≤s.size:=by omega
 have a2:s.size≤12:=by omega
 rw [zg6 (by intro _; omega)]
 have c0:((s.toList.getD 0 0).toNat:Int)=chI s 0:=rfl
 have d1:decide ((s.size:Int) < 1)=false:=by simp; omega
 have d2:decide (12 < (s.size:Int))=false:=by simp; omega
 simp only [a1,a2,decide_true,Bool.true_and,c0,d1,d2,Bool.false_or]
 have hall:(List.range s.size).all (okC s)=(zC6 (chI s 0)&&(List.range s.size).all fun i=>zt5 (chI s i)):=by
  rw [Bool.eq_iff_iff]
  simp only [List.all_eq_true,List.mem_range,Bool.and_eq_true,okC,Bool.or_eq_true,Bool.not_eq_true',decide_eq_false_iff_not]
  constructor
  ·intro h
   refine ⟨?_,fun i hi=>?_⟩
   ·rcases h 0 (by omega) with h|h
    ·exact h
    ·exact absurd rfl h.1
   ·rcases h i hi with h|h
    ·unfold zt5; simp [h]
    ·exact h.2
  ·rintro ⟨h0,h⟩ i hi
   by_cases hz:i=0
   ·subst hz; exact .inl h0
   ·exact .inr ⟨hz,h i hi⟩
 rw [hall]
 cases hr:zw2 s
 ·cases hL:zC6 (chI s 0)
  ·rfl
  ·simp only [Bool.not_true,Bool.or_self,Bool.false_eq_true,if_false,zbb9 s a2,Bool.not_false,Bool.true_and]
   cases (List.range s.size).all (fun i=>zt5 (chI s i)) <;> rfl
 ·simp
def resV (r:Resource):Bool:=zN6 r.name&&(ze4 r&&(decide (0≤r.home)&&decide (r.home < 4)))
theorem zbk6 (r:Resource):zg1 r=some (resV r):=by
 unfold zg1 resV
 rw [zaC9]
 simp only [Option.bind_some,Bool.and_assoc]
theorem zbz4 (r:Resource):zj3 r=some (resV r):=by
 unfold zj3 resV
 rw [zav2,zax8]
 simp only [Option.bind_some,Bool.and_assoc]
def getH (l:List Hold) (p:Proc):Amount:=match l.find? fun h=>decide (h.proc=p) with
 | some h=>h.amount
 | none=>Amount.zero
theorem zbk7 (l:List Hold) (p:Proc):∀ k i,i+k=l.length→((zH4 (fun i=>if (l.getD i Hold.zero).proc=p then some (Sum.inr (α:=Unit) (l.getD i Hold.zero).amount) else none) k i).getD (Sum.inl ()))=match (l.drop i).find? fun h=>decide (h.proc=p) with
  | some h=>Sum.inr h.amount
  | none=>Sum.inl ()
 | 0,i,h=>by rw [List.drop_eq_nil_of_le (by omega)]; rfl
 | k+1,i,h=>by
  rw [zao8 l i Hold.zero (by omega)]
  simp only [zH4,List.find?_cons]
  by_cases hp:(l.getD i Hold.zero).proc=p
  ·simp only [hp,if_true,decide_true,Option.getD_some]
  ·simp only [hp,if_false,decide_false]
   exact zbk7 l p k (i+1) (by omega)
theorem zaH1 (l:List Hold) (p:Proc) (hl:l.length < 4611686018427387904):zq7 l p=some (getH l p):=by
 unfold zq7
 have key:zb4 (zF8 l p) 0=some ((zH4 (fun i=>if (l.getD i Hold.zero).proc=p then some (Sum.inr (α:=Unit) (l.getD i Hold.zero).amount) else none) l.length 0).getD (Sum.inl ())):=by
  refine zz6 l.length _ (Sum.inl ()) (fun i hi=>?_) ?_
  ·unfold zF8
   rw [if_pos (by simpa using hi),zg6 (by omega),zc4 (by omega) (by omega)]
   simp only [Int.toNat_natCast,decide_eq_true_eq]
   split <;> rfl
  ·unfold zF8
   rw [if_neg (by simp)]
 rw [key,zbk7 l p l.length 0 (by omega),List.drop_zero]
 unfold getH
 cases l.find? fun h=>decide (h.proc=p) <;> rfl
theorem zaS7 (l:List Hold) (p:Proc) (hl:l.length < 4611686018427387904):zD3 l p=some (getH l p):=by
 rw [← zaH1 l p hl]
 unfold zD3 zq7
 have e:zag8 l p=zF8 l p:=funext fun i=>by
  unfold zag8 zF8
  by_cases h:0≤i∧i < (l.length:Int)
  ·simp only [zg6 h]
  ·by_cases hi:i < (l.length:Int)
   ·rw [if_pos (decide_eq_true hi),if_pos (decide_eq_true hi),gdn h,gdn h]
   ·rw [if_neg (by simpa using hi),if_neg (by simpa using hi)]
 rw [e]
 rfl
theorem zbz5 (a:Amount):zi4 a=zg8 a:=rfl
abbrev covM (a b:Int):Bool:=zR8 a b
theorem zcu3 (a b:Int):covM a b=true ↔ (1≤a∧a≤5∧1≤b∧b≤5)∧(a=b∨a=5∨b=1∨a=4∧b≠5):=by
 unfold covM zR8 zq8
 by_cases h:1≤a∧a≤5∧1≤b∧b≤5
 ·rw [if_neg (by simp; omega)]
  simp
  omega
 ·rw [if_pos (by simp; omega)]
  simp
  omega
theorem zbk8 (a b:Int):zs2 a b=some (covM a b):=by
 unfold zs2 zm2
 rw [zg6 (by simp; omega)]
 congr 1
 rw [Bool.eq_iff_iff,zcu3]
 by_cases h:1≤a∧a≤5∧1≤b∧b≤5
 ·obtain ⟨h1,h2,h3,h4⟩:=h
  have ha:a=1∨a=2∨a=3∨a=4∨a=5:=by omega
  have hb:b=1∨b=2∨b=3∨b=4∨b=5:=by omega
  rcases ha with rfl|rfl|rfl|rfl|rfl <;> rcases hb with rfl|rfl|rfl|rfl|rfl <;> decide
 ·constructor
  ·intro hh
   simp only [Bool.and_eq_true,decide_eq_true_eq] at hh
   omega
  ·rintro ⟨hh,_⟩; exact absurd hh h
def covA (r:Resource) (a b:Amount):Bool:=zH8 r a b
theorem zaX1 (r:Resource) (a b:Amount):zo0 r a b=some (covA r a b):=by
 unfold zo0 covA zH8
 simp only [zbN6,zbz5,zbk8,Option.bind_some]
 cases zc0 r a <;> cases zc0 r b <;> simp
 cases ha:zg8 a <;> cases hb:zg8 b <;> simp
 split <;> rfl
end Ab
end Go.Proofs.YtebopmkhhppfaaaGreatDoor
namespace Go.Proofs.YtebopmkhhppfaaaGreatDoor
namespace Ab
set_option linter.unusedVariables false
set_option linter.unusedSimpArgs false
theorem zav3 (q:Queue) (p:Proc) (hl:q.holds.length < 4611686018427387904):zt4 q p=some (getH q.holds p):=by
 unfold zt4
 rw [zaH1 _ _ hl]; rfl
theorem hb (b:Bool):b=true∨b=false:=by cases b <;> simp
def cvI (q:Queue) (i:Nat):Bool :=
 let w:=q.converts.getD i Wait.zero
 let h:=getH q.holds w.proc
 decide (zal9 q.converts w.proc=(i:Int))&&(!zg8 h&&(zb7 q.resource w.amount&&(covA q.resource w.amount h&&(!decide (w.amount=h)&&(decide (w.priority=0)&&decide (w.passed=0))))))
def cvOk (q:Queue):Bool:=decide (q.converts.length≤8)&&(List.range q.converts.length).all (cvI q)
def wtI (q:Queue) (i:Nat):Bool :=
 let w:=q.waits.getD i Wait.zero
 zb7 q.resource w.amount&&zg8 (getH q.holds w.proc)
def wtOk (q:Queue):Bool:=zah6 q.waits&&(decide (q.holds.length+q.waits.length≤8)&&(List.range q.waits.length).all (wtI q))
theorem zbq6 (q:Queue) (hl:q.holds.length < 4611686018427387904) (hc:q.converts.length≤8):zb4 (zs3 q) 0=some (if (List.range q.converts.length).all (cvI q)=true then .inl () else .inr false):=by
 have key:zb4 (zs3 q) 0=some ((zH4 (fun i=>if cvI q i=true then none else some (Sum.inr false)) q.converts.length 0).getD (Sum.inl ())):=by
  refine zz6 q.converts.length _ (Sum.inl ()) (fun i hi=>?_) ?_
  ·unfold zs3
   rw [if_pos (by simpa using hi),zg6 (by omega),zc4 (by omega) (by omega),Int.toNat_natCast]
   unfold cvI
   generalize q.converts.getD i Wait.zero=w
   rw [zav3 q _ hl,Option.bind_some,zao3 _ _ (show q.converts.length < 4611686018427387904 by omega),Option.bind_some]
   simp only [zaX1]
   rcases hb (decide (zal9 q.converts w.proc=(i:Int))) with c1|c1 <;> rcases hb (zg8 (getH q.holds w.proc)) with c2|c2 <;> rcases hb (zb7 q.resource w.amount) with c3|c3 <;> rcases hb (covA q.resource w.amount (getH q.holds w.proc)) with c4|c4 <;>
    rcases hb (decide (w.amount=getH q.holds w.proc)) with c5|c5 <;> rcases hb (decide (w.priority=0)) with c6|c6 <;> rcases hb (decide (w.passed=0)) with c7|c7 <;>
    simp only [c1,c2,c3,c4,c5,c6,c7,Bool.not_true,Bool.not_false,Bool.or_true,Bool.true_or,Bool.or_false,Bool.false_or,Bool.and_true,Bool.true_and,Bool.and_false,Bool.false_and,if_true,if_false,Bool.false_eq_true,Option.bind_some,Bool.or_self,Bool.and_self]
  ·unfold zs3
   rw [if_neg (by simp)]
 rw [key,zJ7,← List.range_eq_range']
 cases (List.range q.converts.length).all (cvI q) <;> rfl
theorem zaA8 (q:Queue) (hl:q.holds.length < 4611686018427387904):zh3 q=some (cvOk q):=by
 unfold zh3 cvOk
 by_cases h:8 < q.converts.length
 ·have:¬ q.converts.length≤8:=by omega
  rw [if_pos (by simp; omega)]
  simp [this]
 ·have h8:q.converts.length≤8:=by omega
  rw [if_neg (by simp; omega),zbq6 q hl h8]
  simp only [h8,decide_true,Bool.true_and]
  cases (List.range q.converts.length).all (cvI q) <;> rfl
theorem zbk9 (q:Queue) (hl:q.holds.length < 4611686018427387904) (hc:q.waits.length≤8):zb4 (zt0 q) 0=some (if (List.range q.waits.length).all (wtI q)=true then .inl () else .inr false):=by
 have key:zb4 (zt0 q) 0=some ((zH4 (fun i=>if wtI q i=true then none else some (Sum.inr false)) q.waits.length 0).getD (Sum.inl ())):=by
  refine zz6 q.waits.length _ (Sum.inl ()) (fun i hi=>?_) ?_
  ·unfold zt0
   rw [if_pos (by simpa using hi),zg6 (by omega),zc4 (by omega) (by omega),Int.toNat_natCast]
   unfold wtI
   generalize q.waits.getD i Wait.zero=w
   rw [zav3 q _ hl]
   rcases hb (zg8 (getH q.holds w.proc)) with c2|c2 <;> rcases hb (zb7 q.resource w.amount) with c3|c3 <;> simp only [c2,c3,Bool.not_true,Bool.not_false,Bool.or_true,Bool.true_or,Bool.or_false,Bool.false_or,Bool.and_true,Bool.true_and,Bool.and_false,Bool.false_and,if_true,if_false,Bool.false_eq_true,Option.bind_some,Bool.or_self,Bool.and_self]
  ·unfold zt0
   rw [if_neg (by simp)]
 rw [key,zJ7,← List.range_eq_range']
 cases (List.range q.waits.length).all (wtI q) <;> rfl
theorem zaL0 (q:Queue) (hl:q.holds.length≤1000000):zl7 q=some (wtOk q):=by
 unfold zl7 wtOk
 rw [zaM0,Option.bind_some]
 cases hv:zah6 q.waits
 ·simp
 ·have h8:=zbk5 hv
  rw [zc4 (by omega) (by omega)]
  by_cases h:8 < q.holds.length+q.waits.length
  ·have:¬ q.holds.length+q.waits.length≤8:=by omega
   rw [if_pos (by simp; omega)]
   simp [this]
  ·have h9:q.holds.length+q.waits.length≤8:=by omega
   rw [if_neg (by simp; omega),zbk9 q (by omega) h8]
   simp only [h9,decide_true,Bool.true_and]
   cases (List.range q.waits.length).all (wtI q) <;> rfl
def zav4 (q:Queue):Bool:=resV q.resource&&(zY6 q.resource q.holds&&(cvOk q&&(wtOk q&&(decide (0≤q.gen)&&decide (q.gen≤1073741824)))))
theorem zbl0 (q:Queue):zu4 q=some (zav4 q):=by
 unfold zu4 zav4
 rw [zbk6,Option.bind_some]
 cases resV q.resource
 ·simp
 ·simp only [if_true,zaj5,Option.bind_some,Bool.true_and]
  cases hv:zY6 q.resource q.holds
  ·simp
  ·have hl:=zar1 hv
   simp only [if_true,zaA8 q (by omega),Option.bind_some,Bool.true_and]
   cases cvOk q
   ·simp
   ·simp only [if_true,zaL0 q (by omega),Option.bind_some,Bool.true_and,Bool.and_assoc]
theorem zbl1 (q:Queue) (hl:q.holds.length≤1000000) (hc:q.waits.length≤8):zb4 (zZ5 q) 0=some (if (List.range q.waits.length).all (wtI q)=true then .inl () else .inr false):=by
 rw [← zbk9 q (by omega) hc]
 congr 1
 funext i
 unfold zZ5 zt0
 by_cases h:0≤i∧i < (q.waits.length:Int)
 ·rw [if_pos (decide_eq_true h.2),if_pos (decide_eq_true h.2),zg6 h,zg6 h,zg6 (fun _=>h)]
  simp only [zaS3,zbz5,zaS7 _ _ (show q.holds.length < 4611686018427387904 by omega),zav3 q _ (show q.holds.length < 4611686018427387904 by omega)]
 ·by_cases hi:i < (q.waits.length:Int)
  ·rw [if_pos (decide_eq_true hi),if_pos (decide_eq_true hi),gdn h,gdn h]
  ·rw [if_neg (by simpa using hi),if_neg (by simpa using hi)]
theorem zaS8 (q:Queue) (hl:q.holds.length≤1000000) (hc:q.converts.length≤8):zb4 (zL5 q) 0=some (if (List.range q.converts.length).all (cvI q)=true then .inl () else .inr false):=by
 have key:zb4 (zL5 q) 0=some ((zH4 (fun i=>if cvI q i=true then none else some (Sum.inr false)) q.converts.length 0).getD (Sum.inl ())):=by
  refine zz6 q.converts.length _ (Sum.inl ()) (fun i hi=>?_) ?_
  ·unfold zL5
   rw [if_pos (by simpa using hi),zg6 (by omega),zc4 (by omega) (by omega),Int.toNat_natCast]
   unfold cvI covA
   generalize q.converts.getD i Wait.zero=w
   rw [zaS7 _ _ (show q.holds.length < 4611686018427387904 by omega),Option.bind_some,zaL9 _ _ (show q.converts.length < 4611686018427387904 by omega)]
   simp only [zbz5,zaS3]
   rcases hb (decide (zal9 q.converts w.proc=(i:Int))) with c1|c1 <;> rcases hb (zg8 (getH q.holds w.proc)) with c2|c2 <;> rcases hb (zb7 q.resource w.amount) with c3|c3 <;> rcases hb (zH8 q.resource w.amount (getH q.holds w.proc)) with c4|c4 <;>
    rcases hb (decide (w.amount=getH q.holds w.proc)) with c5|c5 <;> rcases hb (decide (w.priority=0)) with c6|c6 <;> rcases hb (decide (w.passed=0)) with c7|c7 <;>
    simp only [c1,c2,c3,c4,c5,c6,c7,Bool.not_true,Bool.not_false,Bool.or_true,Bool.true_or,Bool.or_false,Bool.false_or,Bool.and_true,Bool.true_and,Bool.and_false,Bool.false_and,if_true,if_false,Bool.false_eq_true,Option.bind_some,Bool.or_self,Bool.and_self]
  ·unfold zL5
   rw [if_neg (by simp)]
 rw [key,zJ7,← List.range_eq_range']
 cases (List.range q.converts.length).all (cvI q) <;> rfl
theorem zaH2 (q:Queue):zy1 q=some (zav4 q):=by
 unfold zy1 zav4 cvOk wtOk
 rw [zbz4,Option.bind_some]
 cases resV q.resource
 ·simp
 ·simp only [if_true,zar0,Option.bind_some,Bool.true_and]
  cases hv:zY6 q.resource q.holds
  ·simp
  ·have hl:=zar1 hv
   by_cases hc:8 < q.converts.length
   ·have h1:¬ q.converts.length≤8:=by omega
    have h2:decide (8 < (q.converts.length:Int))=true:=by simp; omega
    simp [h1,h2]
   ·have h1:q.converts.length≤8:=by omega
    have h2:decide (8 < (q.converts.length:Int))=false:=by simp; omega
    simp only [h1,h2,Bool.not_true,Bool.or_self,Bool.not_false,if_true,zbk4,Option.bind_some,Bool.false_or,decide_true,Bool.true_and]
    cases hw:zah6 q.waits
    ·simp
    ·have h8:=zbk5 hw
     simp only [Bool.not_true,Bool.false_or,Bool.true_and]
     rw [zc4 (by omega) (by omega)]
     by_cases h:q.holds.length+q.waits.length≤8
     ·by_cases g1:0≤q.gen
      ·by_cases g2:q.gen≤1073741824
       ·rw [if_neg (by simp; omega),zaS8 q (by omega) h1]
        simp only [h,g1,g2,decide_true,Bool.true_and,Bool.and_true]
        cases (List.range q.converts.length).all (cvI q)
        ·rfl
        ·simp only [if_true,Option.bind_some,Bool.true_and]
         unfold zZ6
         rw [zbl1 q (by omega) h8]
         cases (List.range q.waits.length).all (wtI q) <;> rfl
       ·rw [if_pos (by simp; omega)]; simp [g2]
      ·rw [if_pos (by simp; omega)]; simp [g1]
     ·rw [if_pos (by simp; omega)]; simp [h]
def zay0 (q:Queue):Wait×Bool:=match q.converts++q.waits with
 | w :: _=>(w,true)
 | []=>(Wait.zero,false)
theorem zaM1 (q:Queue):zz2 q=some (zay0 q):=by
 unfold zz2 zay0
 cases q.converts with
 | cons a l=>rw [if_pos (by simp),zg6 (by simp)]; rfl
 | nil =>
  rw [if_neg (by simp)]
  cases q.waits with
  | cons a l=>rw [if_pos (by simp),zg6 (by simp)]; rfl
  | nil=>rw [if_neg (by simp)]; rfl
theorem zbq7 (q:Queue):zK5 q=some (zay0 q):=by
 rw [← zaM1]; rfl
def zp3 (q:Queue):Bool:=zav4 q&&!((zay0 q).2&&zba1 q.resource q.holds (zay0 q).1.proc (zay0 q).1.amount)
theorem zaX2 (q:Queue):zq1 q=some (zp3 q):=by
 unfold zq1 zp3
 rw [zbl0,Option.bind_some]
 cases zav4 q
 ·simp
 ·rw [if_neg (by simp),zaM1,Option.bind_some]
  cases (zay0 q).2 <;> simp [zcA6]
theorem zaX3 (q:Queue):zv0 q=some (zp3 q):=by
 unfold zv0 zp3
 rw [zaH2,Option.bind_some]
 cases zav4 q
 ·simp
 ·rw [if_neg (by simp),zbq7,Option.bind_some]
  cases (zay0 q).2 <;> simp [zbE2]
theorem zbl2 (q:Queue):zu6 q=some (zp3 q):=by
 unfold zu6
 rw [zaX2]; rfl
theorem zbl3 (q:Queue):zB4 q=some (zp3 q):=by
 unfold zB4
 rw [zaH2,Option.bind_some]
 cases h:zav4 q
 ·simp [zp3,h]
 ·simp [zaX3]
end Ab
end Go.Proofs.YtebopmkhhppfaaaGreatDoor
namespace Go.Proofs.YtebopmkhhppfaaaGreatDoor
namespace Ab
set_option linter.unusedVariables false
set_option linter.unusedSimpArgs false
theorem zbq8 (a b:List Hold) (hl:a.length < 4611686018427387904):zx6 a b=some (decide (a=b)):=by
 unfold zx6
 by_cases h:a.length=b.length
 ·rw [if_neg (by simp [h])]
  exact zbu2 a b Hold.zero hl h (fun i=>rfl)
 ·rw [if_pos (by simp; omega)]
  have:a≠b:=fun e=>h (by rw [e])
  simp [this]
instance:DecidableEq Queue:=fun a b=>decidable_of_iff (a.resource=b.resource∧a.holds=b.holds∧a.converts=b.converts∧a.waits=b.waits∧a.gen=b.gen) (by rw [Queue.ext_iff])
theorem zbq9 (a b:Queue) (h1:a.holds.length < 4611686018427387904) (h2:a.converts.length < 4611686018427387904) (h3:a.waits.length < 4611686018427387904):zP4 a b=some (decide (a=b)):=by
 unfold zP4
 simp only [zbq8 _ _ h1,zaS5 _ _ h2,zaS5 _ _ h3]
 have e:decide (a=b)=(decide (a.resource=b.resource)&&(decide (a.gen=b.gen)&&(decide (a.holds=b.holds)&&(decide (a.converts=b.converts)&&decide (a.waits=b.waits))))):=by
  rw [Bool.eq_iff_iff]
  simp only [decide_eq_true_eq,Bool.and_eq_true,Queue.ext_iff]
  constructor
  ·rintro ⟨a1,a2,a3,a4,a5⟩; exact ⟨a1,a5,a2,a3,a4⟩
  ·rintro ⟨a1,a5,a2,a3,a4⟩; exact ⟨a1,a2,a3,a4,a5⟩
 rw [e]
 cases decide (a.resource=b.resource) <;> cases decide (a.gen=b.gen) <;> cases decide (a.holds=b.holds) <;> cases decide (a.converts=b.converts) <;> cases decide (a.waits=b.waits) <;> rfl
theorem zbI6 (a b:List Wait) (ha:a.length≤1000000) (hb:b.length≤1000000):zd4 [a,b]=some (a++b):=by
 unfold zd4
 have s0:zf7 [a,b] (0,0)=some (.inl ((a.length:Int),1)):=by
  unfold zf7
  rw [if_pos (by simp),zg6 (by simp)]
  show (if decide (IntKind.i64.wrap (0+(a.length:Int)) < 0)=true then none else some (Sum.inl (IntKind.i64.wrap (0+(a.length:Int)),_)))=_
  rw [zc4 (by omega) (by omega),if_neg (by simp),Int.zero_add]
  rfl
 have s1:zf7 [a,b] ((a.length:Int),1)=some (.inl ((a.length:Int)+(b.length:Int),2)):=by
  unfold zf7
  rw [if_pos (by simp),zg6 (by simp)]
  show (if decide (IntKind.i64.wrap ((a.length:Int)+(b.length:Int)) < 0)=true then none else some (Sum.inl (IntKind.i64.wrap ((a.length:Int)+(b.length:Int)),_)))=_
  rw [zc4 (by omega) (by omega),if_neg (by simp; omega)]
  rfl
 have s2:zf7 [a,b] ((a.length:Int)+(b.length:Int),2)=some (.inr ((a.length:Int)+(b.length:Int))):=by
  unfold zf7
  rw [if_neg (by simp)]
 rw [zd2,s0]
 simp only
 rw [zd2,s1]
 simp only
 rw [zd2,s2]
 simp only [Option.bind_some]
 unfold zp8 ze7
 rw [zg6 (by omega),Option.bind_some]
 have t0:zf6 [a,b] (0,[])=some (.inl (1,a)):=by
  unfold zf6
  rw [if_pos (by simp),zg6 (by simp),zg6 (by simp; omega)]
  rfl
 have t1:zf6 [a,b] (1,a)=some (.inl (2,a++b)):=by
  unfold zf6
  rw [if_pos (by simp),zg6 (by simp),zg6 (by simp; omega)]
  rfl
 have t2:zf6 [a,b] (2,a++b)=some (.inr (a++b)):=by
  unfold zf6
  rw [if_neg (by simp)]
 rw [zd2,t0]
 simp only
 rw [zd2,t1]
 simp only
 rw [zd2,t2]
 rfl
theorem zbl4 (q:Queue) (h1:q.converts.length≤1000000) (h2:q.waits.length≤1000000):zs4 q=some (q.converts++q.waits):=by
 unfold zs4
 rw [zbI6 _ _ h1 h2]; rfl
end Ab
end Go.Proofs.YtebopmkhhppfaaaGreatDoor
namespace Go.Proofs.YtebopmkhhppfaaaGreatDoor
namespace Ab
set_option linter.unusedVariables false
set_option linter.unusedSimpArgs false
end Ab
end Go.Proofs.YtebopmkhhppfaaaGreatDoor
namespace Go.Proofs.YtebopmkhhppfaaaGreatDoor
namespace Ab
set_option linter.unusedVariables false
set_option linter.unusedSimpArgs false
def canQ (q:Queue):Bool:=(zay0 q).2&&zba1 q.resource q.holds (zay0 q).1.proc (zay0 q).1.amount
def zcu4 (q:Queue):Nat:=q.converts.length+q.waits.length
end Ab
end Go.Proofs.YtebopmkhhppfaaaGreatDoor
namespace Go.Proofs.YtebopmkhhppfaaaGreatDoor
namespace Ab
set_option linter.unusedVariables false
set_option linter.unusedSimpArgs false
end Ab
end Go.Proofs.YtebopmkhhppfaaaGreatDoor
namespace Go.Proofs.YtebopmkhhppfaaaGreatDoor
namespace Ab
set_option linter.unusedVariables false
set_option linter.unusedSimpArgs false
def optI (o:Option Nat):Int:=match o with
 | some i=>(i:Int)
 | none=>-1
theorem zbR3 (l:List Wait) (p:Proc):zal9 l p=optI (zaH0 p l 0):=rfl
theorem zcu5 (o:Option Nat):optI (o.map (·+1))=if 0≤optI o then optI o+1 else -1:=by
 cases o with
 | none=>rfl
 | some n =>
  have h:(0:Int)≤optI (some n):=Int.natCast_nonneg n
  rw [if_pos h]; exact Int.natCast_succ n
theorem zaO0 {l:List Wait}:(∀ i,i < l.length→zal9 l (l.getD i Wait.zero).proc=i) ↔ (l.map (·.proc)).Nodup:=by
 induction l with
 | nil=>simp
 | cons w l ih =>
  rw [List.map_cons,List.nodup_cons]
  have shift:∀ p i,zaH0 p l (i+1)=(zaH0 p l i).map (·+1):=by
   intro p
   clear ih
   induction l with
   | nil=>intro i; rfl
   | cons x l ih=>intro i; simp only [zaH0]; split <;> simp [ih]
  have hcons:∀ i,zal9 (w :: l) (l.getD i Wait.zero).proc=if w.proc=(l.getD i Wait.zero).proc then 0 else if 0≤zal9 l (l.getD i Wait.zero).proc then zal9 l (l.getD i Wait.zero).proc+1 else -1:=fun i=>by
   simp only [zbR3,zaH0,shift]
   by_cases h:w.proc=(l.getD i Wait.zero).proc
   ·simp [h,optI]
   ·simp only [h,if_false]
    exact zcu5 _
  constructor
  ·intro h
   have h1:∀ i,i < l.length→w.proc≠(l.getD i Wait.zero).proc∧zal9 l (l.getD i Wait.zero).proc=i:=fun i hi=>by
    have:=h (i+1) (by simpa using hi)
    rw [List.getD_cons_succ,hcons] at this
    split at this
    ·omega
    ·rename_i hne
     split at this
     ·exact ⟨hne,by omega⟩
     ·omega
   refine ⟨fun hm=>?_,ih.1 fun i hi=>(h1 i hi).2⟩
   obtain ⟨x,hx,he⟩:=List.mem_map.1 hm
   obtain ⟨i,hi,rfl⟩:=List.mem_iff_getElem.1 hx
   have:=(h1 i hi).1
   rw [List.getD_eq_getElem?_getD,List.getElem?_eq_getElem hi] at this
   exact this he.symm
  ·rintro ⟨h1,h2⟩ i hi
   have h3:=ih.2 h2
   cases i with
   | zero=>simp [zal9,zaH0]
   | succ i =>
    have hi':i < l.length:=by simpa using hi
    have hne:w.proc≠(l.getD i Wait.zero).proc:=fun e=>h1 (List.mem_map.2 ⟨l.getD i Wait.zero,by
     rw [List.getD_eq_getElem?_getD,List.getElem?_eq_getElem hi']; exact List.getElem_mem hi',e.symm⟩)
    rw [List.getD_cons_succ,hcons,if_neg hne,h3 i hi',if_pos (by omega)]
    omega
theorem zbI7 (l:List Wait):zah6 l=true ↔ l.length≤8∧(∀ w ∈ l,zj9 w=true)∧(l.map (·.proc)).Nodup:=by
 unfold zah6
 simp only [Bool.and_eq_true,decide_eq_true_eq,List.all_eq_true,List.mem_range]
 constructor
 ·rintro ⟨h1,h2⟩
  refine ⟨h1,fun w hw=>?_,zaO0.1 fun i hi=>(h2 i hi).2⟩
  obtain ⟨i,hi,rfl⟩:=List.mem_iff_getElem.1 hw
  have:=(h2 i hi).1
  rwa [List.getD_eq_getElem?_getD,List.getElem?_eq_getElem hi] at this
 ·rintro ⟨h1,h2,h3⟩
  refine ⟨h1,fun i hi=>⟨h2 _ ?_,zaO0.2 h3 i hi⟩⟩
  rw [List.getD_eq_getElem?_getD,List.getElem?_eq_getElem hi]
  exact List.getElem_mem hi
end Ab
end Go.Proofs.YtebopmkhhppfaaaGreatDoor
namespace Go.Proofs.YtebopmkhhppfaaaGreatDoor
namespace Ab
set_option linter.unusedVariables false
set_option linter.unusedSimpArgs false
theorem zaO1 (r:Resource) (l:List Hold):zY6 r l=true ↔ ze4 r=true∧l.length≤8∧GoodP r l∧CompP r (l.map (·.amount)):=by
 unfold zY6; simp
theorem zbl5 {α S X:Type} (f:S→α→S) (fin:S→X):∀ (l:List α) (i:Nat) (s:S),walk (fun _ a s=>some (.inl (f s a))) fin l i s=some (fin (l.foldl f s))
 | [],_,_=>rfl
 | a :: l,i,s=>by simp only [walk,List.foldl_cons]; exact zbl5 f fin l (i+1) _
theorem zcu6 (l:List Hold) (hl:l.length≤1000000):zO0 l=some (l.map (·.proc)):=by
 unfold zO0
 have key:=zv5 (body:=zU3 l) l Hold.zero (fun i (s:List Proc)=>((i:Int),s)) (fun i h s=>some (.inl (zaw4 s (some h.proc)))) (fun s=>s) (fun i s=>s.length≤i)
  (fun i s hi hs=>by
   refine ⟨?_,fun s' h=>?_⟩
   ·unfold zU3
    have h1:s.length+1≤4294967296:=by omega
    have h3:0≤(i:Int)∧(i:Int) < (l.length:Int):=by omega
    simp only [h1,h3.1,h3.2,and_self,zx3,decide_true,if_true,Int.toNat_natCast,ze6 i (by omega),Option.map_some,wmap,zaw4]
   ·simp only [Option.some.injEq,Sum.inl.injEq] at h; subst h; simp [zaw4]; omega)
  (fun s hs=>by unfold zU3; simp) [] (by simp)
 rw [show ((0,[]):Int×List Proc)=(fun (i:Nat) (s:List Proc)=>((i:Int),s)) 0 [] from rfl,key,zaw5 (fun h:Hold=>some h.proc)]
 simp [zaq7]
end Ab
end Go.Proofs.YtebopmkhhppfaaaGreatDoor
