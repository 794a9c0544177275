import Derived.Test.YtogpinppgncpmaaGreatDoorWalk
import Derived.Laws.Bits64
import Derived.Laws.BitsLemmas
import Derived.KernelRfl
import Derived.Test.YtogpinppgncpmaaGreatDoorHm25
import Derived.Test.YtogpinppgncpmaaGreatDoorHm28
namespace Go.Proofs.YtogpinppgncpmaaGreatDoor
namespace Ab
noncomputable section
set_option linter.unusedVariables false
set_option linter.unusedSimpArgs false
def zW0 (a0:aD) (g1:Int):Option ((Int)⊕((Unit)⊕(Bool))) :=
 (if (decide (g1 < (a0.aQ.length:Int)))=true then
  gd (0≤g1∧g1 < (a0.aQ.length:Int)) <|
  ((if (zm2 ((a0.aQ.getD g1.toNat bC.zero).aN))=true then zB0 ((a0.aQ.getD g1.toNat bC.zero).bO) else some (false))).bind fun v3 =>
  gd (((!((((!(zm2 ((a0.aQ.getD g1.toNat bC.zero).aN)))||(!v3))||(decide ((a0.aQ.getD g1.toNat bC.zero).gen < 0)))||(decide (1073741824 < (a0.aQ.getD g1.toNat bC.zero).gen))))&&(decide (0 < g1)))=true→0≤(IntKind.i64.wrap (g1 - 1))∧(IntKind.i64.wrap (g1 - 1)) < (a0.aQ.length:Int)) <|
  (if (((((!(zm2 ((a0.aQ.getD g1.toNat bC.zero).aN)))||(!v3))||(decide ((a0.aQ.getD g1.toNat bC.zero).gen < 0)))||(decide (1073741824 < (a0.aQ.getD g1.toNat bC.zero).gen)))||((decide (0 < g1))&&(decide (0≤(zu4 ((a0.aQ.getD ((IntKind.i64.wrap (g1 - 1)).toNat) bC.zero).aN) ((a0.aQ.getD g1.toNat bC.zero).aN))))))=true then
   some (.inr (.inr false))
  else
   some (.inl (IntKind.i64.wrap (g1+1))))
 else
  some (.inr (.inl ())))
def zah4  (j1:Int×(List Int)):Option ((List Int)) :=
 gd (j1.2.length+1≤4294967296) <|
 some (j1.2++[(IntKind.u8.wrap j1.1)])
def zs1  (g1:Int×(List Int)):Option ((Int×(List Int))⊕((Int×(List Int)))) :=
 (if (decide (128≤g1.1))=true then
  gd (g1.2.length+1≤4294967296) <|
  some (.inl ((g1.1.fdiv (2 ^ 7)),(g1.2++[(zO4 .or .u8 (IntKind.u8.wrap (zO4 .and .u64 g1.1 127)) 128)])))
 else
  some (.inr (g1.1,g1.2)))
def zH1 (a0:List Int) (a1:Int):Option ((List Int)) :=
 gd (a0.length≤4294967296) <|
 (zc0 (zs1) (a1,a0)).bind (fun z=>zah4 z)
def zav0 (a0:List Int) (a1:Int):Option ((List Int)) :=
 (zH1 a0 (IntKind.u64.wrap a1)).bind fun v1 =>
 some v1
def zbh3  (j1:Int×(List Int)):Option ((List Int)) :=
 gd (j1.2.length+1≤4294967296) <|
 some (j1.2++[(IntKind.u8.wrap j1.1)])
def zbh4  (g1:Int×(List Int)):Option ((Int×(List Int))⊕((Int×(List Int)))) :=
 (if (decide (128≤g1.1))=true then
  gd (g1.2.length+1≤4294967296) <|
  some (.inl ((g1.1.fdiv (2 ^ 7)),(g1.2++[(zO4 .or .u8 (IntKind.u8.wrap (zO4 .and .u64 g1.1 127)) 128)])))
 else
  some (.inr (g1.1,g1.2)))
def zaQ0 (a0:List Int) (a1:Int):Option ((List Int)) :=
 gd (a0.length≤4294967296) <|
 (zc0 (zbh4) (a1,a0)).bind (fun z=>zbh3 z)
def zaH2 (a0:List Int) (a1:ByteArray):Option ((List Int)) :=
 (zaQ0 a0 (IntKind.u64.wrap (a1.size:Int))).bind fun v1 =>
 gd (v1.length+a1.toList.length≤4294967296) <|
 some (v1++(a1.toList.map fun b=>(b.toNat:Int)))
def zbc4 (a0:List Int) (a1:aJ):Option ((List Int)) :=
 (if (!(zm2 a1))=true then
  gd (a0.length≤4294967296) <|
  some a0
 else
  (zH1 a0 (IntKind.u64.wrap a1.site)).bind fun v1 =>
  (zH1 v1 (IntKind.u64.wrap a1.inc)).bind fun v2 =>
  (zH1 v2 (IntKind.u64.wrap a1.num)).bind fun v3 =>
  some v3)
def zaL6 (a0:List Int) (a1:aC):Option ((List Int)) :=
 (zav0 a0 a1.mode).bind fun v1 =>
 (zav0 v1 a1.aS).bind fun v2 =>
 some v2
def zbI0  (j1:(List Int)):Option ((List Int)) :=
 some j1
def zas3 (a90:((List Int)→aO→Option ((List Int)))) (a1:aO) (g1:(List Int)×Int):Option (((List Int)×Int)⊕(((List Int)))) :=
 (if (decide (g1.2 < (a1.bA.length:Int)))=true then
  gd (0≤g1.2∧g1.2 < (a1.bA.length:Int)) <|
  (a90 g1.1 (a1.bA.getD g1.2.toNat aO.zero)).bind fun v5 =>
  some (.inl (v5,(IntKind.i64.wrap (g1.2+1))))
 else
  some (.inr g1.1))
def zaL7 (a90:((List Int)→aO→Option ((List Int)))) (a0:List Int) (a1:aO):Option ((List Int)) :=
 (zav0 a0 a1.k).bind fun v1 =>
 (if (decide (a1.k=0))=true then
  (zaH2 v1 a1.bB.name).bind fun v2 =>
  (zaL6 v2 a1.bB.aK).bind fun v3 =>
  some v3
 else
  (zav0 v1 (a1.bA.length:Int)).bind fun v4 =>
  (zc0 (zas3 a90 a1) (v4,0)).bind (fun z=>zbI0 z))
def zaD2:Nat→((List Int)→aO→Option ((List Int)))
 | 0=>fun _ _=>none
 | n+1=>zaL7 (zaD2 n)
def zU9 (l:List Int):Prop:=∀ x ∈ l,0≤x∧x < 256
theorem zde2 (c:Int) (h0:0≤c) (h1:c < 256):(zO4 .and .u8 c 128=0) ↔ c < 128:=by
  have k:(List.range 256).all (fun n=>decide ((zO4 .and .u8 (n:Int) 128=0) ↔ (n:Int) < 128))=true:=by kernel_rfl
  obtain ⟨n,rfl⟩:=Int.eq_ofNat_of_zero_le h0
  have:=eJ.1 k n (eG.2 (by omega))
  simpa using this
end
set_option linter.unusedVariables false
set_option linter.unusedSimpArgs false
abbrev cmpP (p q:aJ):Int:=zu4 p q
def ltP (p q:aJ):Prop:=p.site < q.site∨p.site=q.site∧(p.inc < q.inc∨p.inc=q.inc∧p.num < q.num)
instance (p q:aJ):Decidable (ltP p q):=by unfold ltP; infer_instance
theorem zcr1 (a b:Int):zO6 a b=if a < b then -1 else if b < a then 1 else 0:=by
 unfold zO6; simp only [bY]
theorem zbv5 (p q:aJ):cmpP p q=if ltP p q then -1 else if ltP q p then 1 else 0:=by
 obtain ⟨a,b,c⟩:=p
 obtain ⟨d,e,f⟩:=q
 unfold cmpP zu4 ltP
 simp only [zcr1,cS,cW]
 grind
theorem zab9 (p:aJ):¬ ltP p p:=by unfold ltP; omega
theorem zav1 {p q r:aJ} (h:ltP p q) (k:ltP q r):ltP p r:=by unfold ltP at *; omega
theorem zbk2 {p q:aJ} (h:ltP p q):¬ ltP q p:=by unfold ltP at *; omega
theorem zav2 {p q:aJ} (h:p≠q):ltP p q∨ltP q p:=by
 obtain ⟨a,b,c⟩:=p
 obtain ⟨d,e,f⟩:=q
 simp only [ne_eq,aJ.mk.injEq] at h
 unfold ltP
 simp only
 omega
theorem zbQ3 (p q:aJ):0 < cmpP p q ↔ ltP q p:=by
 rw [zbv5]
 by_cases h:ltP p q
 ·simp [h,zbk2 h]
 ·by_cases h2:ltP q p <;> simp [h,h2]
theorem zaF9 (p q:aJ):0≤cmpP p q ↔ ¬ ltP p q:=by
 rw [zbv5]
 by_cases h:ltP p q
 ·simp [h]
 ·by_cases h2:ltP q p <;> simp [h,h2]
theorem zaf6 (p q:aJ):zd8 p q=some (cmpP p q):=by
 unfold zd8 zh3
 have e:∀ (x y z:Int) (i:Nat) (h:[x,y,z].length=3),Arr.get (⟨[x,y,z],h⟩:Arr Int 3) i 0=match i with|0=>x|1=>y|_=>z:=by
  intro x y z i h
  match i with
  | 0=>rfl
  | 1=>rfl
  | 2=>rfl
  | n+3 =>
   have:¬ (n+3 < 3):=by omega
   simp [Arr.get,zL7,this]
 have w1:IntKind.i64.wrap (0+1)=1:=by decide
 have w2:IntKind.i64.wrap (1+1)=2:=by decide
 have w3:IntKind.i64.wrap (2+1)=3:=by decide
 have s3:zn6 ⟨[p.site,p.inc,p.num],rfl⟩ ⟨[q.site,q.inc,q.num],rfl⟩ 3=some (.inr (.inl ())):=by unfold zn6; simp
 have s2:zn6 ⟨[p.site,p.inc,p.num],rfl⟩ ⟨[q.site,q.inc,q.num],rfl⟩ 2=some (if p.num < q.num then .inr (.inr (-1)) else if q.num < p.num then .inr (.inr 1) else .inl 3):=by
  unfold zn6
  rw [bV (by decide),gdp (by decide),gdp (by decide),gdp (by decide)]
  simp only [e,show (2:Int).toNat=2 from rfl,bY,w3]
  by_cases h:p.num < q.num
  ·simp [h]
  ·by_cases h2:q.num < p.num <;> simp [h,h2]
 have s1:zn6 ⟨[p.site,p.inc,p.num],rfl⟩ ⟨[q.site,q.inc,q.num],rfl⟩ 1=some (if p.inc < q.inc then .inr (.inr (-1)) else if q.inc < p.inc then .inr (.inr 1) else .inl 2):=by
  unfold zn6
  rw [bV (by decide),gdp (by decide),gdp (by decide),gdp (by decide)]
  simp only [e,Int.toNat_one,bY,w2]
  by_cases h:p.inc < q.inc
  ·simp [h]
  ·by_cases h2:q.inc < p.inc <;> simp [h,h2]
 have s0:zn6 ⟨[p.site,p.inc,p.num],rfl⟩ ⟨[q.site,q.inc,q.num],rfl⟩ 0=some (if p.site < q.site then .inr (.inr (-1)) else if q.site < p.site then .inr (.inr 1) else .inl 1):=by
  unfold zn6
  rw [bV (by decide),gdp (by decide),gdp (by decide),gdp (by decide)]
  simp only [e,Int.toNat_zero,bY,w1]
  by_cases h:p.site < q.site
  ·simp [h]
  ·by_cases h2:q.site < p.site <;> simp [h,h2]
 rw [zbv5]
 unfold ltP
 by_cases a1:p.site < q.site
 ·rw [zf6,s0]; simp [a1]
 ·by_cases a2:q.site < p.site
  ·rw [zf6,s0]
   have:¬ p.site=q.site:=by omega
   simp [a1,a2,this]
  ·have h1:p.site=q.site:=by omega
   by_cases b1:p.inc < q.inc
   ·rw [zf6,s0]; simp only [a1,a2,cA]; rw [zf6,s1]; simp [b1,h1]
   ·by_cases b2:q.inc < p.inc
    ·have:¬ p.inc=q.inc:=by omega
     rw [zf6,s0]; simp only [a1,a2,cA]; rw [zf6,s1]; simp [b1,b2,h1,this]
    ·have h2:p.inc=q.inc:=by omega
     rw [zf6,s0]; simp only [a1,a2,cA]; rw [zf6,s1]; simp only [b1,b2,cA]; rw [zf6,s2]
     by_cases c1:p.num < q.num
     ·simp [c1,h1,h2]
     ·by_cases c2:q.num < p.num
      ·simp [c1,c2,h1,h2]
      ·simp only [c1,c2,cA]; rw [zf6,s3]; simp [h1,h2,zag5]
def insP (p:aJ) (a:aC):List aU→List aU
 | []=>[⟨p,a⟩]
 | h :: t=>if ltP p h.aN then ⟨p,a⟩ :: h :: t else h :: insP p a t
def zu9 (p:aJ) (l:List aU):List aU:=l.filter fun h=>!decide (h.aN=p)
def setL (l:List aU) (p:aJ) (a:aC):List aU:=if a=aC.zero then zu9 p l else insP p a (zu9 p l)
theorem zdz6 (p:aJ):zu9 p []=[]:=rfl
theorem zaG0 (p:aJ) (h:aU) (t:List aU):zu9 p (h :: t)=if h.aN=p then zu9 p t else h :: zu9 p t:=by
 unfold zu9; rw [jO]; by_cases e:h.aN=p <;> simp [e]
theorem zaL8 (p:aJ) (l:List aU):(zu9 p l).length≤l.length:=gV _ _
theorem zay8 (l:List aU) (p:aJ) (a:aC) (hl:l.length≤1000000):zr9 l p a=some (setL l p a):=by
 unfold zr9
 have key:=zB3 (body:=zal5 l p a) l aU.zero (fun i (s:Bool×List aU)=>(s.1,(i:Int),s.2))
  (fun i h s=>some (.inl (if h.aN=p then s else if s.1=false∧ltP p h.aN then (true,s.2++[⟨p,a⟩]++[h]) else (s.1,s.2++[h])))) (fun s=>s) (fun i s=>s.2.length≤2 * i)
  (fun i s hi hs=>by
   refine ⟨?_,fun s' h=>?_⟩
   ·unfold zal5
    have h1:s.2.length+1≤4294967296:=by omega
    have h2:s.2.length+1+1≤4294967296:=by omega
    have h3:0≤(i:Int)∧(i:Int) < (l.length:Int):=by omega
    simp only [h1,h2,h3.1,h3.2,cV,eR,zm1,cC,cB,Int.toNat_natCast,bY,bT,cS,zbQ3,zc4 i (by omega),Option.map_some,wmap]
    by_cases e:(l.getD i aU.zero).aN=p
    ·simp only [e,cB]
    ·simp only [e,cA]
     split <;> rfl
   ·simp only [dC,eX] at h
    subst h
    split
    ·omega
    ·split <;> simp <;> omega)
  (fun s hs=>by unfold zal5; simp) (zl7 a,[]) (by simp)
 have hz:zl7 a=decide (a=aC.zero):=rfl
 have fold:∀ (l:List aU) (i:Nat) (d:Bool) (o:List aU),walk (fun i h (s:Bool×List aU)=>some (.inl (if h.aN=p then s else if s.1=false∧ltP p h.aN then (true,s.2++[⟨p,a⟩]++[h]) else (s.1,s.2++[h])))) (fun s=>s) l i (d,o) =
   some (if d=true then (true,o++zu9 p l) else if (zu9 p l).any (fun h=>decide (ltP p h.aN))=true then (true,o++insP p a (zu9 p l)) else (false,o++zu9 p l)):=by
  intro l
  induction l with
  | nil=>intro i d o; cases d <;> simp [walk,zu9]
  | cons h t ih =>
   intro i d o
   simp only [walk,zaG0]
   by_cases e:h.aN=p
   ·simp only [e,cB]; exact ih (i+1) d o
   ·simp only [e,cA]
    by_cases e2:d=false∧ltP p h.aN
    ·obtain ⟨rfl,e3⟩:=e2
     simp only [e3,cV,cB]
     rw [ih]
     simp [insP,e3]
    ·rw [bU e2,ih]
     cases d with
     | true=>simp
     | false =>
      have e3:¬ ltP p h.aN:=fun hh=>e2 ⟨rfl,hh⟩
      simp only [bS,cA,insP,e3,List.any_cons,cJ,dL]
      split <;> simp
 have noins:∀ l:List aU,l.any (fun h=>decide (ltP p h.aN))=false→insP p a l=l++[⟨p,a⟩]:=by
  intro l
  induction l with
  | nil=>intro _; rfl
  | cons h t ih =>
   intro hh
   simp only [List.any_cons,gZ,cW] at hh
   simp only [insP,hh.1,cA,ih hh.2,List.cons_append]
 rw [show ((zl7 a,(0:Int),([]:List aU)):Bool×Int×List aU)=(fun (i:Nat) (s:Bool×List aU)=>(s.1,(i:Int),s.2)) 0 (zl7 a,[]) from rfl,key,fold,hz]
 unfold setL zaK8
 have ho:=zaL8 p l
 by_cases ha:a=aC.zero
 ·simp [ha]
 ·simp only [ha,cJ,bS,cA,List.nil_append]
  by_cases hx:(zu9 p l).any (fun h=>decide (ltP p h.aN))=true
  ·simp [hx]
  ·have hx:(zu9 p l).any (fun h=>decide (ltP p h.aN))=false:=by simpa using hx
   rw [bU (by rw [hx]; decide),Option.bind_some,noins _ hx]
   show gd ((zu9 p l).length+1≤4294967296) _=_
   rw [gdp (by omega)]
theorem zde3 {α:Type} (l:List α) (k:Nat) (z x:α) (hk:k≤l.length) :
  (((l++[z]).take (k+1)++(((l++[z]).drop k).take (l.length+1 - k)).take (l.length+1 - (k+1))++(l++[z]).drop (k+1+min (((l++[z]).drop k).take (l.length+1 - k)).length (l.length+1 - (k+1)))).set k x)=l.take k++x :: l.drop k:=by
 have e1:((l++[z]).drop k).take (l.length+1 - k)=l.drop k++[z]:=by
  rw [fD hk,cX (by simp; omega)]
 have e2:(l.drop k++[z]).take (l.length+1 - (k+1))=l.drop k:=by
  rw [eW (by simp),cX (by simp)]
 have e3:(l++[z]).drop (k+1+min (l.drop k++[z]).length (l.length+1 - (k+1)))=[]:=by
  rw [gF]; simp; omega
 rw [e1,e2,e3,dT]
 by_cases hkl:k=l.length
 ·subst hkl
  rw [cX (by simp),iV,dT,gK _ _ (dD _)]
  simp
 ·have:(l++[z]).take (k+1)=l.take k++[l[k]'(by omega)]:=by
   rw [eW (by omega),eZ (by omega)]
  rw [this,cE,gK _ _ (by simp; omega)]
  simp [show min k l.length=k by omega]
theorem zbQ4 (l:List aU) (p:aJ) (a:aC) (hl:l.length≤1000000):zp7 l p a=some (setL l p a):=by
 unfold zp7
 have hw:IntKind.i64.wrap ((l.length:Int)+1)=(l.length:Int)+1:=zf5 (by omega) (by omega)
 rw [hw,gdp (by omega)]
 have key:=zB3 (body:=zV2 l p) l aU.zero (fun i (s:Int×List aU)=>(s.1,(i:Int),s.2))
  (fun i h s=>some (.inl (if h.aN=p then s else (if s.1 < 0∧ltP p h.aN then (s.2.length:Int) else s.1,s.2++[h])))) (fun s=>s) (fun i s=>s.2.length≤i)
  (fun i s hi hs=>by
   refine ⟨?_,fun s' h=>?_⟩
   ·unfold zV2
    have h1:s.2.length+1≤4294967296:=by omega
    have h3:0≤(i:Int)∧(i:Int) < (l.length:Int):=by omega
    simp only [h1,h3.1,h3.2,cV,eR,zm1,cC,cB,Int.toNat_natCast,bY,bT,zaf6,zc4 i (by omega),Option.map_some,wmap]
    by_cases e:(l.getD i aU.zero).aN=p
    ·simp only [e,cB]
    ·simp only [e,cA]
     by_cases e2:s.1 < 0
     ·simp only [e2,cB,Option.bind_some,gD,zbQ3]
      split <;> rfl
     ·simp only [e2,cA,Option.bind_some,iU]
   ·simp only [dC,eX] at h
    subst h
    split
    ·omega
    ·simp; omega)
  (fun s hs=>by unfold zV2; simp) (-1,[]) (by simp)
 have fold:∀ (l:List aU) (i:Nat) (d:Int) (o:List aU),walk (fun i h (s:Int×List aU)=>some (.inl (if h.aN=p then s else (if s.1 < 0∧ltP p h.aN then (s.2.length:Int) else s.1,s.2++[h])))) (fun s=>s) l i (d,o) =
   some (if d < 0∧(zu9 p l).any (fun h=>decide (ltP p h.aN))=true then (((o.length+(zu9 p l).findIdx (fun h=>decide (ltP p h.aN)):Nat):Int),o++zu9 p l) else (d,o++zu9 p l)):=by
  intro l
  induction l with
  | nil=>intro i d o; simp [walk,zu9]
  | cons h t ih =>
   intro i d o
   simp only [walk,zaG0]
   by_cases e:h.aN=p
   ·simp only [e,cB]; exact ih (i+1) d o
   ·simp only [e,cA]
    by_cases e2:d < 0∧ltP p h.aN
    ·simp only [e2,cV,cB]
     rw [ih,bU (by omega)]
     simp [e2.2,jF]
    ·rw [bU e2,ih]
     by_cases e3:d < 0
     ·have e4:¬ ltP p h.aN:=fun hh=>e2 ⟨e3,hh⟩
      simp only [e3,gD,List.any_cons,e4,cJ,dL,jF,cond_false,bX,List.length_cons,List.length_nil,cE,List.cons_append,List.nil_append]
      split
      ·congr 3; omega
      ·rfl
     ·simp [e3]
 have ins:∀ l:List aU,insP p a l=l.take (l.findIdx (fun h=>decide (ltP p h.aN)))++⟨p,a⟩ :: l.drop (l.findIdx (fun h=>decide (ltP p h.aN))):=by
  intro l
  induction l with
  | nil=>rfl
  | cons h t ih =>
   simp only [insP,jF]
   by_cases e:ltP p h.aN
   ·simp [e]
   ·simp [e,ih]
 have key2:zc0 (zV2 l p) (-1,0,List.replicate 0 aU.zero)=some (if (zu9 p l).any (fun h=>decide (ltP p h.aN))=true then (((zu9 p l).findIdx (fun h=>decide (ltP p h.aN)):Nat):Int) else -1,zu9 p l):=by
  rw [show ((-1,0,List.replicate 0 aU.zero):Int×Int×List aU)=(fun (i:Nat) (s:Int×List aU)=>(s.1,(i:Int),s.2)) 0 (-1,[]) from rfl,key,fold]
  have:((-1:Int) < 0):=by decide
  simp only [this,gD,List.nil_append,List.length_nil,dR]
  split <;> rfl
 rw [key2,Option.bind_some]
 unfold zao2 setL
 have hz:zk5 a=decide (a=aC.zero):=rfl
 rw [hz]
 by_cases ha:a=aC.zero
 ·simp [ha]
 ·simp only [ha,cJ,bS,cA,bY]
  have ho:=zaL8 p l
  generalize zu9 p l=o at ho
  have fi:o.findIdx (fun h=>decide (ltP p h.aN))≤o.length:=List.findIdx_le_length
  have hz2:({ aU.zero with }:aU)=aU.zero:=rfl
  by_cases hx:o.any (fun h=>decide (ltP p h.aN))=true
  ·simp only [hx,cB]
   generalize hk:o.findIdx (fun h=>decide (ltP p h.aN))=k at fi
   have hkl:k < o.length:=by rw [← hk]; exact List.findIdx_lt_length_of_exists (by simpa using hx)
   rw [bU (by omega)]
   simp only [zc4 k (by omega),Int.toNat_natCast]
   rw [gdp (by omega),gdp (by omega),gdp (by omega),gdp (by omega),zde3 o k _ _ (by omega),ins o,hk]
  ·have hx':o.any (fun h=>decide (ltP p h.aN))=false:=by simpa using hx
   simp only [hx',bS,cA]
   rw [bV (by decide)]
   have hk:o.findIdx (fun h=>decide (ltP p h.aN))=o.length:=by
    rw [List.findIdx_eq_length]; simpa using hx'
   simp only [zc4 o.length (by omega),Int.toNat_natCast]
   rw [gdp (by omega),gdp (by omega),gdp (by omega),gdp (by omega),zde3 o o.length _ _ (by omega),ins o,hk]
theorem zaV0 (r:aI):zJ1 r=zf7 r:=by
 unfold zJ1 zf7
 rw [dN]
 by_cases h1:r.kind=1
 ·simp [h1]
 ·by_cases h2:r.kind=2 <;> simp [h1,h2]
theorem zaQ1 (r:aI) (a:aC):zs9 r a=zb1 r a:=by
 unfold zs9 zb1 zw0 zv0
 rw [zaV0]
theorem zbk3 (r:aI) (a:aC):zt5 r a=zc7 r a:=by
 unfold zt5 zc7 zl7 zk5
 rw [zaV0,zaQ1]
theorem zay9 (p:aJ):zm2 p=zb6 p:=by
 unfold zm2 zb6 zL1
 rw [dN]; simp; omega
theorem zK3 (r:aI):zf7 r=true ↔ (r.kind=1∧r.aS=1)∨(r.kind=2∧1≤r.aS∧r.aS≤8):=by
 unfold zf7
 by_cases h1:r.kind=1
 ·simp [h1]
 ·by_cases h2:r.kind=2 <;> simp [h1,h2]
theorem zK4 (r:aI) (a:aC):zb1 r a=true ↔ (r.kind=1∧r.aS=1∧1≤a.mode∧a.mode≤5∧a.aS=0)∨(r.kind=2∧1≤r.aS∧r.aS≤8∧a.mode=0∧1≤a.aS∧a.aS≤r.aS):=by
 unfold zb1 zv0
 have:=zK3 r
 cases h:zf7 r with
 | false =>
  rw [h] at this
  simp only [bS,false_iff] at this
  simp only [dE,cB,bS,false_iff]
  omega
 | true =>
  rw [h] at this
  simp only [true_iff] at this
  by_cases h1:r.kind=1
  ·simp [h1]; omega
  ·simp [h1]; omega
theorem perm_iff (r:aI) (a:aC):zc7 r a=true ↔ (zf7 r=true∧a=aC.zero)∨zb1 r a=true:=by
 unfold zc7 zk5
 have e:(decide (a={ aC.zero with }):Bool)=decide (a=aC.zero):=rfl
 rw [e]
 have hs:zb1 r a=true→zf7 r=true:=by
  rw [zK4,zK3]; omega
 cases h1:zf7 r <;> cases h2:zb1 r a <;> simp_all
theorem zaB4 {r:aI} {a:aC} (h:zc7 r a=true) (hk:r.kind=1):a.aS=0∧0≤a.mode∧a.mode≤5∧r.aS=1:=by
 rw [perm_iff,zK4,zK3] at h
 rcases h with ⟨h1,rfl⟩|h1
 ·simp [aC.zero]; omega
 ·omega
theorem zbk4 {r:aI} {a:aC} (h:zc7 r a=true) (hk:r.kind=2):a.mode=0∧0≤a.aS∧a.aS≤r.aS∧r.aS≤8:=by
 rw [perm_iff,zK4,zK3] at h
 rcases h with ⟨h1,rfl⟩|h1
 ·simp [aC.zero]; omega
 ·omega
theorem zag3 {r:aI} {a:aC} (h:zc7 r a=true):0≤a.aS∧a.aS≤8∧0≤a.mode∧a.mode≤5∧1≤r.aS∧r.aS≤8:=by
 rw [perm_iff,zK4,zK3] at h
 rcases h with ⟨h1,rfl⟩|h1
 ·simp [aC.zero]; omega
 ·omega
abbrev mC (a b:Int):Bool:=zN6 a b
theorem zci9 (a b:Int):mC a b=true ↔ (1≤a∧a≤4∧1≤b∧b≤4)∧(a=1∨b=1∨a=b∧a≠4):=by
 unfold mC zN6 zw0
 split
 ·rename_i h; simp at h; simp; omega
 ·rename_i h; simp at h; simp; omega
theorem zbK1 (a b:Int):mC a b=mC b a:=by rw [dN,zci9,zci9]; omega
theorem zbr3 (a b:Int):zh5 a b=some (mC a b):=by
 unfold zh5 zv0
 by_cases h:(1≤a∧a≤5)∧(1≤b∧b≤5)
 ·obtain ⟨⟨a1,a2⟩,b1,b2⟩:=h
  have wa:IntKind.i64.wrap (a - 1)=a - 1:=zf5 (by omega) (by omega)
  have wb:IntKind.i64.wrap (b - 1)=b - 1:=zf5 (by omega) (by omega)
  simp only [wa,wb]
  rw [gdp (fun _=>by omega),gdp (fun _=>by omega)]
  congr 1
  have ha:a=1∨a=2∨a=3∨a=4∨a=5:=by omega
  have hb:b=1∨b=2∨b=3∨b=4∨b=5:=by omega
  rcases ha with rfl|rfl|rfl|rfl|rfl <;> rcases hb with rfl|rfl|rfl|rfl|rfl <;> decide
 ·have hv:(((decide (1≤a))&&(decide (a≤5)))&&((decide (1≤b))&&(decide (b≤5))))=false:=by
   rw [dY]; intro hh; simp at hh; omega
  rw [hv]
  rw [gdp (fun h=>by cases h),gdp (fun h=>by cases h)]
  have:mC a b=false:=by rw [dY]; intro hh; rw [zci9] at hh; omega
  rw [this]; rfl
def zar0 (b a:aC):Prop:=b.mode≠0∧a.mode≠0∧mC b.mode a.mode=false
instance (b a:aC):Decidable (zar0 b a):=by unfold zar0; infer_instance
def sumU:List aC→Int
 | []=>0
 | a :: l=>a.aS+sumU l
structure CompP (r:aI) (l:List aC):Prop where
 perm:∀ a ∈ l,zc7 r a=true
 sum:sumU l≤r.aS
 pair:l.Pairwise fun b a=>¬ zar0 b a
instance (r:aI) (l:List aC):Decidable (CompP r l) :=
 decidable_of_iff ((∀ a ∈ l,zc7 r a=true)∧sumU l≤r.aS∧l.Pairwise fun b a=>¬ zar0 b a) ⟨fun ⟨a,b,c⟩=>⟨a,b,c⟩,fun ⟨a,b,c⟩=>⟨a,b,c⟩⟩
def zbF8 (r:aI) (l:List aC):Bool:=zf7 r&&decide (CompP r l)
theorem zcr2 {l:List aC} (h:∀ a ∈ l,0≤a.aS):0≤sumU l:=by
 induction l with
 | nil=>simp [sumU]
 | cons a l ih =>
  have:=ih fun b hb=>h b (.tail _ hb)
  have:=h a (.head _)
  simp only [sumU]; omega
def zbo2 (r:aI):List aC→List aC→Int→Bool
 | [],_,_=>true
 | a :: t,prev,s=>zc7 r a&&(decide (s+a.aS≤r.aS)&&(decide (∀ b ∈ prev,¬ zar0 b a)&&zbo2 r t (prev++[a]) (s+a.aS)))
theorem zbB0 (r:aI) (hr:0≤r.aS):∀ (l prev:List aC) (s:Int),s≤r.aS→(zbo2 r l prev s=true ↔ (∀ a ∈ l,zc7 r a=true)∧s+sumU l≤r.aS∧(∀ b ∈ prev,∀ a ∈ l,¬ zar0 b a)∧l.Pairwise fun b a=>¬ zar0 b a)
 | [],prev,s,hs=>by simp [zbo2,sumU]; exact hs
 | a :: t,prev,s,hs=>by
  simp only [zbo2,bT,bY,List.forall_mem_cons,cU,sumU]
  constructor
  ·rintro ⟨h1,h2,h3,h4⟩
   rw [zbB0 r hr t (prev++[a]) (s+a.aS) h2] at h4
   obtain ⟨k1,k2,k3,k4⟩:=h4
   refine ⟨⟨h1,k1⟩,by omega,fun b hb=>⟨h3 b hb,fun c hc=>k3 b (by simp [hb]) c hc⟩,fun c hc=>k3 a (by simp) c hc,k4⟩
  ·rintro ⟨⟨h1,k1⟩,h2,h3,h4,h5⟩
   have hn:0≤sumU t:=zcr2 fun b hb=>(zag3 (k1 b hb)).1
   have h6:s+a.aS≤r.aS:=by omega
   refine ⟨h1,h6,fun b hb=>(h3 b hb).1,?_⟩
   rw [zbB0 r hr t (prev++[a]) (s+a.aS) h6]
   refine ⟨k1,by omega,fun b hb c hc=>?_,h5⟩
   rcases cI.1 hb with hb|hb
   ·exact (h3 b hb).2 c hc
   ·simp at hb; subst hb; exact h4 c hc
theorem zcr3 (r:aI) (l:List aC) (hs:zf7 r=true):zbF8 r l=zbo2 r l [] 0:=by
 have hr:1≤r.aS:=by rw [zK3] at hs; omega
 unfold zbF8
 rw [hs,cH,dN,zbB0 r (by omega) l [] 0 (by omega),bY]
 exact ⟨fun ⟨a,b,c⟩=>⟨a,by omega,by simp,c⟩,fun ⟨a,b,_,c⟩=>⟨a,by omega,c⟩⟩
def zbr4 (seen:Arr Bool 6) (m:Int):Bool:=(List.range' 0 6).all fun k=>!(seen.get k false)||mC k m
theorem zcj0 (l:List aC) (g:Int×Int×Arr Bool 6):zc0 (zD3 l g) 0=some (if zbr4 g.2.2 (l.getD g.2.1.toNat aC.zero).mode=true then .inl () else .inr false):=by
 have key:=zJ0 (body:=zD3 l g) 6 (fun i=>if (!(g.2.2.get i false)||mC i (l.getD g.2.1.toNat aC.zero).mode)=true then none else some (.inr false)) (.inl ()) (fun i hi=>by
  unfold zD3
  have h3:0≤(i:Int)∧(i:Int) < 6:=by omega
  have h4:IntKind.i64.wrap ((i:Int)+1)=(i:Int)+1:=zf5 (by omega) (by omega)
  simp only [h3.1,h3.2,cV,zm1,cC,cB,Int.toNat_natCast,zbr3,h4]
  cases Arr.get g.2.2 i false <;> cases mC i (l.getD g.2.1.toNat aC.zero).mode <;> rfl) (by unfold zD3; simp)
 rw [key,zS6]
 unfold zbr4
 split <;> simp_all
theorem zdp3 (s:Arr Bool 6) (i k:Nat) (hi:i < 6) (hk:k < 6):(s.put i true).get k false=if k=i then true else s.get k false:=by
 obtain ⟨l,hl⟩:=s
 simp only [Arr.put,Arr.get,zan3 hi,zan3 hk,bW,List.getElem?_set]
 by_cases h:k=i
 ·subst h; simp [hl,hk]
 ·rw [bU (fun e=>h e.symm),bU h]
theorem zbh5 (r:aI) (l:List aC) (hl:l.length≤1000000):zk9 r l=some (zbF8 r l):=by
 unfold zk9
 cases hs:zf7 r with
 | false=>simp [zbF8,hs]
 | true =>
  have hru:1≤r.aS∧r.aS≤8:=by rw [zK3] at hs; omega
  rw [zcr3 r l hs]
  simp only [cK,bS,cA]
  have key:=zB3 (body:=zJ4 r l) l aC.zero (fun i (s:Int×Arr Bool 6)=>(s.1,(i:Int),s.2))
   (fun i a s=>some (if zc7 r a=false∨r.aS < s.1+a.aS then .inr false else if a.mode=0 then .inl (s.1+a.aS,s.2) else if zbr4 s.2 a.mode=true then .inl (s.1+a.aS,s.2.put a.mode.toNat true) else .inr false)) (fun _=>true) (fun i s=>0≤s.1∧s.1≤8)
   (fun i s hi hi2=>by
    refine ⟨?_,fun s' h=>?_⟩
    ·unfold zJ4
     have h3:0≤(i:Int)∧(i:Int) < (l.length:Int):=by omega
     simp only [h3.1,h3.2,cV,zm1,cC,cB,Int.toNat_natCast,zc4 i (by omega),Option.map_some,zcj0]
     cases hp:zc7 r (l.getD i aC.zero) with
     | false=>simp [wmap]
     | true =>
      have hb:=zag3 hp
      have hw:IntKind.i64.wrap (s.1+(l.getD i aC.zero).aS)=s.1+(l.getD i aC.zero).aS:=zf5 (by omega) (by omega)
      simp only [hw,cK,dL,bY,fR,iO]
      by_cases h4:r.aS < s.1+(l.getD i aC.zero).aS
      ·simp only [h4,cB,wmap]
      ·by_cases h5:(l.getD i aC.zero).mode=0
       ·simp only [h4,cA,h5,cB,wmap]
       ·simp only [h4,h5,cA]
        by_cases h6:zbr4 s.2 (l.getD i aC.zero).mode=true
        ·simp only [h6,cB,Option.bind_some,wmap]
         unfold zU1
         simp only [Int.toNat_natCast,hw,zc4 i (by omega)]
         rw [gdp (by omega)]
        ·simp only [h6,bS,cA,wmap,Option.bind_some]
    ·simp only [dC] at h
     split at h
     ·cases h
     ·rename_i hn
      simp only [kC,eP] at hn
      have hb:=zag3 hn.1
      split at h
      ·cases h; simp only; omega
      ·split at h
       ·cases h; simp only; omega
       ·cases h)
   (fun s hs=>by unfold zJ4; simp) (0,Arr.rep 6 false) (by simp)
  have fold:∀ (l prev:List aC) (i:Nat) (s:Int) (seen:Arr Bool 6),(∀ b ∈ prev,0≤b.mode∧b.mode≤5)→(∀ k,k < 6→seen.get k false=decide (∃ b ∈ prev,b.mode≠0∧b.mode=(k:Int))) →
    walk (fun i a (s:Int×Arr Bool 6)=>some (if zc7 r a=false∨r.aS < s.1+a.aS then .inr false else if a.mode=0 then .inl (s.1+a.aS,s.2) else if zbr4 s.2 a.mode=true then .inl (s.1+a.aS,s.2.put a.mode.toNat true) else .inr false)) (fun _=>true) l i (s,seen)=some (zbo2 r l prev s):=by
   intro l
   induction l with
   | nil=>intro prev i s seen _ _; rfl
   | cons a t ih =>
    intro prev i s seen hpv hsn
    simp only [walk,zbo2]
    cases hp:zc7 r a with
    | false=>simp
    | true =>
     have hb:=zag3 hp
     by_cases h4:r.aS < s+a.aS
     ·simp [h4]; intro h; omega
     ·have h4':s+a.aS≤r.aS:=by omega
      simp only [fR,iO,h4,cA,h4',cC,cH]
      by_cases h5:a.mode=0
      ·simp only [h5,cB]
       rw [ih (prev++[a]) (i+1) (s+a.aS) seen (by
        intro b hb'; rcases cI.1 hb' with h|h
        ·exact hpv b h
        ·simp at h; subst h; omega) (by
        intro k hk
        rw [hsn k hk,hX]
        constructor
        ·rintro ⟨b,h1,h2⟩; exact ⟨b,by simp [h1],h2⟩
        ·rintro ⟨b,h1,h2,h3⟩
         rcases cI.1 h1 with h|h
         ·exact ⟨b,h,h2,h3⟩
         ·simp at h; subst h; exact absurd h5 h2)]
       have:∀ b ∈ prev,¬ zar0 b a:=fun b _ hc=>hc.2.1 h5
       rw [cN this,cH]
      ·simp only [h5,cA]
       have hse:zbr4 seen a.mode=decide (∀ b ∈ prev,¬ zar0 b a):=by
        rw [dN,bY]
        unfold zbr4
        simp only [eJ,List.mem_range'_1,dQ,cS]
        constructor
        ·intro hh b hb' ⟨c1,c2,c3⟩
         have hbb:=hpv b hb'
         rcases hh b.mode.toNat (by omega) with h|h
         ·rw [hsn _ (by omega)] at h
          simp only [cW,not_exists,not_and] at h
          exact h b hb' c1 (by omega)
         ·rw [show ((b.mode.toNat:Nat):Int)=b.mode by omega,c3] at h; cases h
        ·intro hh k hk
         rw [hsn k (by omega)]
         by_cases he:∃ b ∈ prev,b.mode≠0∧b.mode=(k:Int)
         ·obtain ⟨b,h1,h2,h3⟩:=he
          right
          rw [← h3]
          have:=hh b h1
          unfold zar0 at this
          simp only [not_and,eP] at this
          exact this h2 h5
         ·left; simpa using he
       rw [hse]
       by_cases h7:∀ b ∈ prev,¬ zar0 b a
       ·rw [cN h7]
        simp only [cB,cH]
        rw [ih (prev++[a]) (i+1) (s+a.aS) (seen.put a.mode.toNat true) (by
         intro b hb'; rcases cI.1 hb' with h|h
         ·exact hpv b h
         ·simp at h; subst h; omega) (by
         intro k hk
         rw [zdp3 seen a.mode.toNat k (by omega) hk,hsn k hk]
         by_cases hka:k=a.mode.toNat
         ·rw [bV hka]
          exact (cN ⟨a,by simp,h5,by omega⟩).symm
         ·rw [bU hka,hX]
          constructor
          ·rintro ⟨b,h1,h2⟩; exact ⟨b,by simp [h1],h2⟩
          ·rintro ⟨b,h1,h2,h3⟩
           rcases cI.1 h1 with h|h
           ·exact ⟨b,h,h2,h3⟩
           ·simp at h; subst h; omega)]
       ·rw [gB h7]; rfl
  have k2:=fold l [] 0 0 (Arr.rep 6 false) (by simp) (by
   intro k hk
   have:k=0∨k=1∨k=2∨k=3∨k=4∨k=5:=by omega
   rcases this with rfl|rfl|rfl|rfl|rfl|rfl <;> rfl)
  rw [show ((0,0,Arr.rep 6 false):Int×Int×Arr Bool 6)=(fun (i:Nat) (s:Int×Arr Bool 6)=>(s.1,(i:Int),s.2)) 0 (0,Arr.rep 6 false) from rfl,key,k2]
  rfl
theorem zbB1 (l:List aC) (g:Int×Int) (h0:0≤g.2) (hl:g.2 < (l.length:Int)) (hll:l.length≤1000000):zc0 (zF7 l g) 0 =
  some (if (List.range' 0 g.2.toNat).all (fun k=>decide (l.getD g.2.toNat aC.zero=aC.zero)||(decide (l.getD k aC.zero=aC.zero)||mC (l.getD g.2.toNat aC.zero).mode (l.getD k aC.zero).mode))=true then .inl () else .inr false):=by
 have hz:∀ a:aC,zl7 a=decide (a=aC.zero):=fun _=>rfl
 have key:=zJ0 (body:=zF7 l g) g.2.toNat (fun i=>if (decide (l.getD g.2.toNat aC.zero=aC.zero)||(decide (l.getD i aC.zero=aC.zero)||mC (l.getD g.2.toNat aC.zero).mode (l.getD i aC.zero).mode))=true then none else some (.inr false)) (.inl ()) (fun i hi=>by
  unfold zF7
  have h3:(i:Int) < g.2:=by omega
  have h4:IntKind.i64.wrap ((i:Int)+1)=(i:Int)+1:=zf5 (by omega) (by omega)
  have h5:0≤(i:Int)∧(i:Int) < (l.length:Int):=by omega
  simp only [h3,cC,cB,Int.toNat_natCast,h4,h5.1,h5.2,h0,hl,cV,eR,zm1,hz]
  cases decide (l.getD g.2.toNat aC.zero=aC.zero) <;> cases decide (l.getD i aC.zero=aC.zero) <;> cases hm:zN6 (l.getD g.2.toNat aC.zero).mode (l.getD i aC.zero).mode <;> simp only [mC,hm] <;> rfl) (by unfold zF7; rw [bU]; simp; omega)
 rw [key,zS6]
 split <;> simp_all
theorem zbm4 (r:aI) (l:List aC) (hl:l.length≤1000000):zm0 r l=some (zbF8 r l):=by
 unfold zm0
 rw [zaV0]
 cases hs:zf7 r with
 | false=>simp [zbF8,hs]
 | true =>
  have hru:1≤r.aS∧r.aS≤8∧(r.kind=1∨r.kind=2):=by rw [zK3] at hs; omega
  rw [zcr3 r l hs]
  simp only [cK,bS,cA]
  have key:=zB3 (body:=zA4 r l) l aC.zero (fun i (s:Int)=>(s,(i:Int)))
   (fun i a s=>some (if zc7 r a=false then .inr (.inr false) else if r.kind=2 then (if r.aS < s+a.aS then .inr (.inr false) else .inl (s+a.aS)) else
    if (List.range' 0 i).all (fun k=>decide (a=aC.zero)||(decide (l.getD k aC.zero=aC.zero)||mC a.mode (l.getD k aC.zero).mode))=true then .inl s else .inr (.inr false))) (fun _=>Sum.inl (β:=Bool) ()) (fun i s=>0≤s∧s≤8)
   (fun i s hi hi2=>by
    refine ⟨?_,fun s' h=>?_⟩
    ·unfold zA4
     have h3:0≤(i:Int)∧(i:Int) < (l.length:Int):=by omega
     simp only [h3.1,h3.2,cV,zm1,cC,cB,Int.toNat_natCast,zc4 i (by omega),Option.map_some,zbk3,zbB1 l (s,(i:Int)) h3.1 h3.2 hl]
     cases hp:zc7 r (l.getD i aC.zero) with
     | false=>simp [wmap]
     | true =>
      have hb:=zag3 hp
      have hw:IntKind.i64.wrap (s+(l.getD i aC.zero).aS)=s+(l.getD i aC.zero).aS:=zf5 (by omega) (by omega)
      simp only [hw,cK,bS,cA,fR,bY]
      by_cases h4:r.kind=2
      ·by_cases h5:r.aS < s+(l.getD i aC.zero).aS
       ·simp only [h4,h5,cB,wmap]
       ·simp only [h4,h5,cB,cA,wmap]
      ·simp only [h4,cA]
       split
       ·simp only [zaj1,wmap,zc4 i (by omega:i < 4611686018427387904),Option.bind_some]
       ·simp only [wmap,Option.bind_some]
    ·simp only [dC] at h
     split at h
     ·cases h
     ·rename_i hn
      simp only [eP] at hn
      have hb:=zag3 hn
      split at h
      ·split at h
       ·cases h
       ·cases h; omega
      ·split at h
       ·cases h; exact hi2
       ·cases h)
   (fun s hs=>by unfold zA4; simp) 0 (by simp)
  have fold:∀ (t prev:List aC) (s:Int),l=prev++t→(∀ b ∈ prev,zc7 r b=true)→(r.kind=1→s=0)→s≤r.aS →
    walk (fun i a (s:Int)=>some (if zc7 r a=false then .inr (.inr false) else if r.kind=2 then (if r.aS < s+a.aS then .inr (.inr false) else .inl (s+a.aS)) else
     if (List.range' 0 i).all (fun k=>decide (a=aC.zero)||(decide (l.getD k aC.zero=aC.zero)||mC a.mode (l.getD k aC.zero).mode))=true then .inl s else .inr (.inr false))) (fun _=>Sum.inl (β:=Bool) ()) t prev.length s=some (if zbo2 r t prev s=true then .inl () else .inr false):=by
   intro t
   induction t with
   | nil=>intro prev s _ _ _ _; rfl
   | cons a t ih =>
    intro prev s hlt hpp hs0 hsu
    simp only [walk,zbo2]
    by_cases hp:zc7 r a=true
    ·have hpp':∀ b ∈ prev++[a],zc7 r b=true:=fun b hb=>by
      rcases cI.1 hb with h|h
      ·exact hpp b h
      ·simp at h; subst h; exact hp
     have hlt':l=(prev++[a])++t:=by rw [hlt]; simp
     have hlen:(prev++[a]).length=prev.length+1:=by simp
     rcases hru.2.2 with hk|hk
     ·
      have ha:=zaB4 hp hk
      have hs:=hs0 hk
      subst hs
      have hk2:¬ r.kind=2:=by omega
      have hsum:(0:Int)+a.aS≤r.aS:=by omega
      simp only [hp,fR,cA,hk2,hsum,cC,cH]
      have hall:(List.range' 0 prev.length).all (fun k=>decide (a=aC.zero)||(decide (l.getD k aC.zero=aC.zero)||mC a.mode (l.getD k aC.zero).mode))=decide (∀ b ∈ prev,¬ zar0 b a):=by
       rw [dN,bY]
       simp only [eJ,List.mem_range'_1,dQ,bY]
       have hget:∀ k,k < prev.length→l.getD k aC.zero=prev.getD k aC.zero:=fun k hk=>by rw [hlt,zcO5 _ _ _ _ hk]
       have hmem:∀ k,k < prev.length→prev.getD k aC.zero ∈ prev:=fun k hk=>by
        rw [bW,bZ hk]; exact gS hk
       have zai6:∀ b,zc7 r b=true→(b=aC.zero ↔ b.mode=0):=fun b hb=>by
        have:=zaB4 hb hk
        rw [aC.ext_iff]; simp [aC.zero]; omega
       constructor
       ·intro hh b hb ⟨c1,c2,c3⟩
        obtain ⟨k,hk1,hk2⟩:=fK.1 hb
        have e:prev.getD k aC.zero=b:=by rw [bW,bZ hk1,Option.getD_some,hk2]
        rcases hh k (by omega) with h|h|h
        ·exact c2 ((zai6 a hp).1 h)
        ·rw [hget k hk1,e] at h; exact c1 ((zai6 b (hpp b hb)).1 h)
        ·rw [hget k hk1,e,zbK1,c3] at h; cases h
       ·intro hh k hk1
        have hk2:k < prev.length:=by omega
        rw [hget k hk2]
        have h1:=hh _ (hmem k hk2)
        have h2:=hpp _ (hmem k hk2)
        unfold zar0 at h1
        rw [zai6 a hp,zai6 _ h2]
        by_cases e1:a.mode=0
        ·exact .inl e1
        ·by_cases e2:(prev.getD k aC.zero).mode=0
         ·exact .inr (.inl e2)
         ·refine .inr (.inr ?_)
          rw [zbK1]
          simp only [not_and,eP] at h1
          exact h1 e2 e1
      rw [hall]
      by_cases h7:∀ b ∈ prev,¬ zar0 b a
      ·rw [cN h7]
       simp only [cB,cH]
       have:=ih (prev++[a]) 0 hlt' hpp' (fun _=>rfl) (by omega)
       rw [hlen] at this
       simp only [hk2,cA] at this
       rw [this,ha.1]; rfl
      ·rw [gB h7]; rfl
     ·
      have ha:=zbk4 hp hk
      simp only [hp,fR,cA,hk,cB,cH]
      have h7:∀ b ∈ prev,¬ zar0 b a:=fun b _ hc=>hc.2.1 ha.1
      by_cases h5:r.aS < s+a.aS
      ·have:¬ s+a.aS≤r.aS:=by omega
       simp [h5,this]
      ·have:s+a.aS≤r.aS:=by omega
       rw [cN h7]
       simp only [h5,cA,this,cC,cH]
       have h8:=ih (prev++[a]) (s+a.aS) hlt' hpp' (fun h=>by omega) this
       rw [hlen] at h8
       simp only [hk,cB] at h8
       exact h8
    ·simp [hp]
  rw [show ((0,0):Int×Int)=(fun (i:Nat) (s:Int)=>(s,(i:Int))) 0 0 from rfl,key]
  have k2:=fold l [] 0 rfl (by simp) (fun _=>rfl) (by omega)
  rw [List.length_nil] at k2
  rw [k2]
  cases zbo2 r l [] 0 <;> rfl
structure GoodP (r:aI) (l:List aU):Prop where
 each:∀ h ∈ l,zb6 h.aN=true∧zb1 r h.aK=true
 asc:l.Pairwise fun a b=>ltP a.aN b.aN
instance (r:aI) (l:List aU):Decidable (GoodP r l) :=
 decidable_of_iff ((∀ h ∈ l,zb6 h.aN=true∧zb1 r h.aK=true)∧l.Pairwise fun a b=>ltP a.aN b.aN) ⟨fun ⟨a,b⟩=>⟨a,b⟩,fun ⟨a,b⟩=>⟨a,b⟩⟩
def zK5 (r:aI) (l:List aU):Bool:=zf7 r&&(decide (l.length≤8)&&(decide (GoodP r l)&&decide (CompP r (l.map (·.aK)))))
theorem zbF9 {r:aI} {a:aC} (h:zb1 r a=true):zf7 r=true:=by rw [zK4] at h; rw [zK3]; omega
theorem zB4 {r:aI} {a:aC} (h:zb1 r a=true):zc7 r a=true:=(perm_iff r a).2 (.inr h)
theorem zac9 {r:aI} {a:aC} (h:zb1 r a=true):a≠aC.zero:=by
 rw [zK4] at h; intro e; subst e; simp [aC.zero] at h
def zav3 (r:aI):List aU→Option aJ→Bool
 | [],_=>true
 | h :: t,pv=>zb6 h.aN&&(zb1 r h.aK&&((match pv with|none=>true|some q=>decide (ltP q h.aN))&&zav3 r t (some h.aN)))
theorem zbB2 (r:aI):∀ (l:List aU) (pv:Option aJ),zav3 r l pv=true ↔ GoodP r l∧∀ q,pv=some q→∀ h ∈ l,ltP q h.aN
 | [],pv=>by
  simp only [zav3,fS,iW,eR,kB,true_iff]
  exact ⟨by simp,.nil⟩
 | h :: t,pv=>by
  simp only [zav3,bT]
  rw [zbB2 r t (some h.aN)]
  constructor
  ·rintro ⟨h1,h2,h3,⟨h4,h5⟩,h6⟩
   refine ⟨⟨fun x hx=>?_,cU.2 ⟨fun x hx=>h6 _ rfl x hx,h5⟩⟩,fun q hq x hx=>?_⟩
   ·rcases cF.1 hx with rfl|hx
    ·exact ⟨h1,h2⟩
    ·exact h4 x hx
   ·subst hq
    simp only [bY] at h3
    rcases cF.1 hx with rfl|hx
    ·exact h3
    ·exact zav1 h3 (h6 _ rfl x hx)
  ·rintro ⟨⟨h1,h2⟩,h3⟩
   rw [cU] at h2
   refine ⟨(h1 h (.head _)).1,(h1 h (.head _)).2,?_,⟨fun x hx=>h1 x (.tail _ hx),h2.2⟩,fun q hq x hx=>by cases hq; exact h2.1 x hx⟩
   cases pv with
   | none=>rfl
   | some q=>exact cN (h3 q rfl h (.head _))
theorem zaB5 (r:aI) (l:List aU):zs6 r l=some (zK5 r l):=by
 unfold zs6 zK5
 cases hs:zf7 r with
 | false=>simp
 | true =>
  by_cases h8:8 < (l.length:Int)
  ·have:¬ l.length≤8:=by omega
   simp [h8,this]
  ·have hl8:l.length≤8:=by omega
   simp only [cK,dL,h8,cJ,bS,cA,hl8,cC,cH]
   have key:=zB3 (body:=zW6 r l) l aU.zero (fun i (s:List aC)=>((i:Int),s))
    (fun i h s=>some (if zb6 h.aN=true∧zb1 r h.aK=true∧(i=0∨ltP (l.getD (i - 1) aU.zero).aN h.aN) then .inl (s++[h.aK]) else .inr (.inr false))) (fun s=>Sum.inl (β:=Bool) s) (fun i s=>s.length≤i)
    (fun i s hi hs=>by
     refine ⟨?_,fun s' h=>?_⟩
     ·unfold zW6
      have h1:s.length+1≤4294967296:=by omega
      have h3:0≤(i:Int)∧(i:Int) < (l.length:Int):=by omega
      simp only [h1,h3.1,h3.2,cV,zm1,cC,cB,Int.toNat_natCast,zaf6,zc4 i (by omega),Option.map_some,bY,bT,dQ,cS]
      by_cases e1:zb6 (l.getD i aU.zero).aN=false∨zb1 r (l.getD i aU.zero).aK=false
      ·rw [bV e1,bU (by rintro ⟨k1,k2,_⟩; rcases e1 with e|e <;> simp_all)]; rfl
      ·rw [bU e1]
       simp only [kC,eP] at e1
       by_cases e2:i=0
       ·subst e2
        rw [gdp (by omega)]
        simp only [Int.natCast_zero,Int.lt_irrefl,cA,Option.bind_some,iU,e1,cV,true_or,cB,wmap]
       ·have w:IntKind.i64.wrap ((i:Int) - 1)=((i - 1:Nat):Int):=zaA3 i (by omega) (by omega)
        rw [gdp (by rw [w]; omega)]
        simp only [w,Int.toNat_natCast,show (0:Int) < (i:Int) by omega,cB,Option.bind_some,gD,zaF9,e1,e2,iO]
        by_cases e3:ltP (l.getD (i - 1) aU.zero).aN (l.getD i aU.zero).aN
        ·simp only [e3,not_true,cA,cB,wmap]
        ·simp only [e3,gX,cB,cA,wmap]
     ·simp only [dC] at h
      split at h
      ·cases h; simp; omega
      ·cases h)
    (fun s hs=>by unfold zW6; simp) [] (by simp)
   have fold:∀ (t prev:List aU) (s:List aC),l=prev++t →
     walk (fun i h (s:List aC)=>some (if zb6 h.aN=true∧zb1 r h.aK=true∧(i=0∨ltP (l.getD (i - 1) aU.zero).aN h.aN) then .inl (s++[h.aK]) else .inr (.inr false))) (fun s=>Sum.inl (β:=Bool) s) t prev.length s =
      some (if zav3 r t (prev.getLast?.map (·.aN))=true then .inl (s++t.map (·.aK)) else .inr false):=by
    intro t
    induction t with
    | nil=>intro prev s _; simp [walk,zav3]
    | cons h t ih =>
     intro prev s hlt
     simp only [walk]
     have hq:(prev.length=0∨ltP (l.getD (prev.length - 1) aU.zero).aN h.aN) ↔ (match prev.getLast?.map (·.aN) with|none=>true|some q=>decide (ltP q h.aN))=true:=by
      rcases List.eq_nil_or_concat prev with rfl|⟨pp,x,rfl⟩
      ·simp
      ·have:(l.getD ((pp.concat x).length - 1) aU.zero)=x:=by
        rw [hlt]; simp [bW]
       rw [this]; simp
     by_cases e:zb6 h.aN=true∧zb1 r h.aK=true∧(prev.length=0∨ltP (l.getD (prev.length - 1) aU.zero).aN h.aN)
     ·rw [bV e]
      have:=ih (prev++[h]) (s++[h.aK]) (by rw [hlt]; simp)
      rw [show (prev++[h]).length=prev.length+1 by simp] at this
      simp only
      have ht:zav3 r (h :: t) (prev.getLast?.map (·.aN))=zav3 r t (some h.aN):=by simp only [zav3,e.1,e.2.1,hq.1 e.2.2,cH]
      rw [this,ht]
      simp
     ·rw [bU e]
      rw [hq] at e
      have hf:zav3 r (h :: t) (prev.getLast?.map (·.aN))=false:=by
       rw [dY]
       intro hh
       simp only [zav3,bT] at hh
       exact e ⟨hh.1,hh.2.1,hh.2.2.1⟩
      rw [hf]; rfl
   have k2:=fold l [] [] rfl
   rw [List.length_nil] at k2
   rw [show ((0,[]):Int×List aC)=(fun (i:Nat) (s:List aC)=>((i:Int),s)) 0 [] from rfl,key,k2]
   have hg:=zbB2 r l none
   by_cases e:zav3 r l none=true
   ·have hgp:GoodP r l:=(hg.1 e).1
    rw [bV (by simpa using e)]
    simp only [Option.bind_some,zat3,List.nil_append]
    rw [zbh5 r _ (by simp; omega)]
    simp [zbF8,hs,hgp]
   ·have hgp:¬ GoodP r l:=fun h=>e (hg.2 ⟨h,by simp⟩)
    rw [bU (by simpa using e)]
    simp [hgp]
theorem zbB3 (l:List aU) (hl:l.length≤1000000):zh1 l=some (l.map (·.aK)):=by
 unfold zh1
 have key:=zB3 (body:=zW3 l) l aU.zero (fun i (s:List aC)=>((i:Int),s)) (fun i h s=>some (.inl (zaE6 s (some h.aK)))) (fun s=>s) (fun i s=>s.length≤i)
  (fun i s hi hs=>by
   refine ⟨?_,fun s' h=>?_⟩
   ·unfold zW3
    have h1:s.length+1≤4294967296:=by omega
    have h3:0≤(i:Int)∧(i:Int) < (l.length:Int):=by omega
    simp only [h1,h3.1,h3.2,cV,zm1,cC,cB,Int.toNat_natCast,zc4 i (by omega),Option.map_some,wmap,zaE6]
   ·simp only [dC,eX] at h; subst h; simp [zaE6]; omega)
  (fun s hs=>by unfold zW3; simp) [] (by simp)
 rw [show ((0,[]):Int×List aC)=(fun (i:Nat) (s:List aC)=>((i:Int),s)) 0 [] from rfl,key,zaJ4 (fun h:aU=>some h.aK)]
 simp [zas9]
theorem zaL9 (r:aI) (l:List aU):zu7 r l=some (zK5 r l):=by
 unfold zu7 zK5
 rw [zaV0]
 cases hs:zf7 r with
 | false=>simp
 | true =>
  by_cases h8:8 < (l.length:Int)
  ·have:¬ l.length≤8:=by omega
   simp [h8,this]
  ·have hl8:l.length≤8:=by omega
   simp only [cK,dL,h8,cJ,bS,cA,hl8,cC,cH]
   have key:=zB3 (body:=zae4 r l) l aU.zero (fun i (_:Unit)=>(i:Int))
    (fun i h _=>some (if zb6 h.aN=true∧zb1 r h.aK=true∧(i=0∨ltP (l.getD (i - 1) aU.zero).aN h.aN) then .inl () else .inr (.inr false))) (fun _=>Sum.inl (β:=Bool) ()) (fun i s=>True)
    (fun i s hi _=>by
     refine ⟨?_,fun _ _=>trivial⟩
     unfold zae4
     have h3:0≤(i:Int)∧(i:Int) < (l.length:Int):=by omega
     simp only [h3.1,h3.2,cV,eR,zm1,cC,cB,Int.toNat_natCast,zc4 i (by omega),Option.map_some,zay9,zaQ1]
     by_cases e2:i=0
     ·subst e2
      rw [gdp (by simp)]
      by_cases e1:zb6 (l.getD 0 aU.zero).aN=true
      ·by_cases e3:zb1 r (l.getD 0 aU.zero).aK=true
       ·simp only [e1,e3]; simp [wmap]
       ·simp only [e1,e3]; simp [wmap]
      ·simp only [e1]; simp [wmap]
     ·have w:IntKind.i64.wrap ((i:Int) - 1)=((i - 1:Nat):Int):=zaA3 i (by omega) (by omega)
      rw [gdp (fun _=>by rw [w]; omega)]
      simp only [w,Int.toNat_natCast,show (0:Int) < (i:Int) by omega,cC,cH,zaF9,e2,iO]
      by_cases e1:zb6 (l.getD i aU.zero).aN=true
      ·by_cases e3:zb1 r (l.getD i aU.zero).aK=true
       ·by_cases e4:ltP (l.getD (i - 1) aU.zero).aN (l.getD i aU.zero).aN
        ·simp only [e1,e3,e4]; simp [wmap]
        ·simp only [e1,e3,e4]; simp [wmap]
       ·simp only [e1,e3]; simp [wmap]
      ·simp only [e1]; simp [wmap])
    (fun s hs=>by unfold zae4; simp) () trivial
   have fold:∀ (t prev:List aU),l=prev++t →
     walk (fun i h (_:Unit)=>some (if zb6 h.aN=true∧zb1 r h.aK=true∧(i=0∨ltP (l.getD (i - 1) aU.zero).aN h.aN) then .inl () else .inr (.inr false))) (fun _=>Sum.inl (β:=Bool) ()) t prev.length () =
      some (if zav3 r t (prev.getLast?.map (·.aN))=true then .inl () else .inr false):=by
    intro t
    induction t with
    | nil=>intro prev _; simp [walk,zav3]
    | cons h t ih =>
     intro prev hlt
     simp only [walk]
     have hq:(prev.length=0∨ltP (l.getD (prev.length - 1) aU.zero).aN h.aN) ↔ (match prev.getLast?.map (·.aN) with|none=>true|some q=>decide (ltP q h.aN))=true:=by
      rcases List.eq_nil_or_concat prev with rfl|⟨pp,x,rfl⟩
      ·simp
      ·have:(l.getD ((pp.concat x).length - 1) aU.zero)=x:=by
        rw [hlt]; simp [bW]
       rw [this]; simp
     by_cases e:zb6 h.aN=true∧zb1 r h.aK=true∧(prev.length=0∨ltP (l.getD (prev.length - 1) aU.zero).aN h.aN)
     ·rw [bV e]
      have:=ih (prev++[h]) (by rw [hlt]; simp)
      rw [show (prev++[h]).length=prev.length+1 by simp] at this
      simp only
      have ht:zav3 r (h :: t) (prev.getLast?.map (·.aN))=zav3 r t (some h.aN):=by simp only [zav3,e.1,e.2.1,hq.1 e.2.2,cH]
      rw [this,ht]
      simp
     ·rw [bU e]
      rw [hq] at e
      have hf:zav3 r (h :: t) (prev.getLast?.map (·.aN))=false:=by
       rw [dY]
       intro hh
       simp only [zav3,bT] at hh
       exact e ⟨hh.1,hh.2.1,hh.2.2.1⟩
      rw [hf]; rfl
   have k2:=fold l [] rfl
   rw [List.length_nil] at k2
   rw [show (0:Int)=(fun (i:Nat) (_:Unit)=>(i:Int)) 0 () from rfl,key,k2]
   have hg:=zbB2 r l none
   by_cases e:zav3 r l none=true
   ·have hgp:GoodP r l:=(hg.1 e).1
    rw [bV (by simpa using e)]
    simp only [Option.bind_some,zaB1]
    rw [zbB3 l (by omega),Option.bind_some,zbm4 r _ (by simp; omega)]
    simp [zbF8,hs,hgp]
   ·have hgp:¬ GoodP r l:=fun h=>e (hg.2 ⟨h,by simp⟩)
    rw [bU (by simpa using e)]
    simp [hgp]
theorem zbv6 (p:aJ) (a:aC) (l:List aU):(insP p a l).length=l.length+1:=by
 induction l with
 | nil=>rfl
 | cons h t ih=>simp only [insP]; split <;> simp [ih]
theorem zde4 (l:List aU) (p:aJ) (a:aC):(setL l p a).length≤l.length+1:=by
 have:=zaL8 p l
 unfold setL
 split
 ·omega
 ·rw [zbv6]; omega
theorem zam2 {r:aI} {l:List aU} (h:zK5 r l=true):l.length≤8:=by
 unfold zK5 at h; simp at h; exact h.2.1
def zak2 (r:aI) (l:List aU) (p:aJ) (a:aC):Bool:=zK5 r l&&(zb6 p&&zb1 r a)
def zaI3 (r:aI) (l:List aU) (p:aJ) (a:aC):Bool:=zak2 r l p a&&zK5 r (setL l p a)
theorem zcQ6 (r:aI) (l:List aU) (p:aJ) (a:aC):zz7 r l p a=some (zak2 r l p a):=by
 unfold zz7 zak2
 rw [zaB5,Option.bind_some,gP]
theorem zdp4 (r:aI) (l:List aU) (p:aJ) (a:aC):zX2 r l p a=some (zaI3 r l p a):=by
 unfold zX2 zaI3
 rw [zcQ6,Option.bind_some]
 cases h:zak2 r l p a with
 | false=>simp
 | true =>
  have hv:zK5 r l=true:=by unfold zak2 at h; simp at h; exact h.1
  simp only [cB]
  rw [zbQ4 l p a (by have:=zam2 hv; omega),Option.bind_some,zaB5]
  simp
theorem zcr4 (r:aI) (l:List aU) (p:aJ) (a:aC):zP0 r l p a=some (zaI3 r l p a):=by
 unfold zP0 zaI3
 rw [zaL9,Option.bind_some,zay9,zaQ1,gP]
 change ((if zak2 r l p a=true then _ else _):Option (List aU)).bind _=_
 cases h:zak2 r l p a with
 | false=>unfold zak2 at h; simp [h]
 | true =>
  have hv:zK5 r l=true:=by unfold zak2 at h; simp at h; exact h.1
  unfold zak2 at h
  simp only [h,cB]
  rw [zay8 l p a (by have:=zam2 hv; omega),Option.bind_some,zaL9]
  simp
def zam3 (p:aJ):List aT→Nat→Option Nat
 | [],_=>none
 | w :: l,i=>if w.aN=p then some i else zam3 p l (i+1)
def zV0 (l:List aT) (p:aJ):Int:=match zam3 p l 0 with
 | some i=>i
 | none=>-1
theorem zbG0 (l:List aT) (p:aJ):∀ k i,i+k=l.length→zS5 (fun i=>if (l.getD i aT.zero).aN=p then some (i:Int) else none) k i=(zam3 p (l.drop i) i).map fun n:Nat=>(n:Int)
 | 0,i,h=>by rw [gF (by omega)]; rfl
 | k+1,i,h=>by
  rw [zaA2 l i aT.zero (by omega)]
  simp only [zS5,zam3]
  by_cases hp:(l.getD i aT.zero).aN=p
  ·simp only [hp,cB,Option.map_some]
  ·simp only [hp,cA]
   exact zbG0 l p k (i+1) (by omega)
theorem zaI9 (l:List aT) (p:aJ) (hl:l.length < 4611686018427387904):zn2 l p=some (zV0 l p):=by
 unfold zn2
 have key:zc0 (zal2 l p) 0=some ((zS5 (fun i=>if (l.getD i aT.zero).aN=p then some (Sum.inr (i:Int)) else none) l.length 0).getD (Sum.inl ())):=by
  refine zJ0 l.length _ (Sum.inl ()) (fun i hi=>?_) ?_
  ·unfold zal2
   rw [bV (by simpa using hi),zg6 (by omega)]
   simp only [Int.toNat_natCast,bY]
   split
   ·rfl
   ·rw [zf5 (by omega) (by omega)]
  ·unfold zal2
   rw [bU (by simp)]
 rw [key]
 have h2:=zbG0 l p l.length 0 (by omega)
 have h3:∀ k i,zS5 (fun i=>if (l.getD i aT.zero).aN=p then some (Sum.inr (α:=Unit) (i:Int)) else none) k i=(zS5 (fun i=>if (l.getD i aT.zero).aN=p then some (i:Int) else none) k i).map Sum.inr:=by
  intro k
  induction k with
  | zero=>intro i; rfl
  | succ k ih =>
   intro i
   simp only [zS5]
   by_cases hp:(l.getD i aT.zero).aN=p
   ·simp only [hp,cB,Option.map_some]
   ·simp only [hp,cA,ih]
 rw [h3,h2,fY]
 unfold zV0
 cases zam3 p l 0 <;> rfl
theorem zar1 (l:List aT) (p:aJ) (hl:l.length < 4611686018427387904):zk1 l p=some (zV0 l p):=by
 have e:zk1 l p=zn2 l p:=rfl
 rw [e]; exact zaI9 l p hl
theorem zaJ0 (w:aT):zy2 w=zl3 w:=by
 unfold zy2 zl3 zm2 zb6 zL1 zp6 zb1 zf7 zw0 zv0
 rw [dN]
 simp
 omega
def zY6 (l:List aT):Bool:=decide (l.length≤8)&&(List.range l.length).all fun i=>zl3 (l.getD i aT.zero)&&decide (zV0 l (l.getD i aT.zero).aN=i)
theorem zbo3 (l:List aT):zt6 l=some (zY6 l):=by
 unfold zt6 zY6
 by_cases h8:8 < (l.length:Int)
 ·rw [bV (by simpa using h8)]
  have:¬ l.length≤8:=by omega
  simp [this]
 ·rw [bU (by simpa using h8)]
  have hl:l.length < 4611686018427387904:=by omega
  have key:zc0 (zS9 l) 0=some ((zS5 (fun i=>if (zl3 (l.getD i aT.zero)&&decide (zV0 l (l.getD i aT.zero).aN=i))=true then none else some (Sum.inr false)) l.length 0).getD (Sum.inl ())):=by
   refine zJ0 l.length _ (Sum.inl ()) (fun i hi=>?_) ?_
   ·unfold zS9
    rw [bV (by simpa using hi),zg6 (by omega)]
    simp only [Int.toNat_natCast]
    by_cases hv:zl3 (l.getD i aT.zero)=true
    ·simp only [hv,cB,zaI9 l _ hl,Option.bind_some,cK,dL,cH]
     by_cases hf:zV0 l (l.getD i aT.zero).aN=(i:Int)
     ·simp only [hf,cC,cK,bS,cA,cB]
      rw [zf5 (by omega) (by omega)]
     ·simp only [hf,cJ,dE,cB,bS,cA]
    ·have hv:zl3 (l.getD i aT.zero)=false:=by simpa using hv
     simp only [hv,bS,cA,Option.bind_some,dE,fN,cB,eK]
   ·unfold zS9
    rw [bU (by simp)]
  rw [key,zS6,← eM]
  have:l.length≤8:=by omega
  simp only [this,cC,cH]
  cases (List.range l.length).all fun i=>zl3 (l.getD i aT.zero)&&decide (zV0 l (l.getD i aT.zero).aN=i) <;> rfl
theorem zbh6 (l:List aT):zu0 l=some (zY6 l):=by
 rw [← zbo3 l]
 unfold zu0 zt6
 by_cases h8:8 < (l.length:Int)
 ·rw [bV (cN h8),bV (cN h8)]
 ·rw [bU (by simpa using h8),bU (by simpa using h8)]
  have hl:l.length < 4611686018427387904:=by omega
  have e:zao3 l=zS9 l:=funext fun i=>by
   unfold zao3 zS9
   by_cases hi:i < (l.length:Int)
   ·rw [bV (cN hi),bV (cN hi)]
    by_cases h0:0≤i∧i < (l.length:Int)
    ·rw [zg6 h0,zg6 h0,zg6 (fun _=>h0)]
     simp only [zaJ0,zar1 l _ hl,zaI9 l _ hl]
    ·unfold gd; rw [bU h0,bU h0]
   ·rw [bU (by simpa using hi)]; rw [bU (by simpa using hi)]
  rw [e]
  rfl
theorem zcr5 {p:aJ}:∀ {l:List aT} {i j:Nat},zam3 p l i=some j→i≤j∧j < i+l.length
 | w :: l,i,j,h=>by
  simp only [zam3] at h
  split at h
  ·cases h; simp
  ·have:=zcr5 h; simp only [List.length_cons]; omega
theorem zcr6 (l:List aT) (p:aJ):zV0 l p=-1∨0≤zV0 l p∧zV0 l p < l.length:=by
 unfold zV0
 cases h:zam3 p l 0 with
 | none=>exact .inl rfl
 | some j=>right; have:=zcr5 h; simp only; omega
def over (w e:aT):Bool:=decide (e.bG < w.bG)&&decide (e.bQ < 3)
def zam4 (l:List aT) (w:aT):Nat→Nat
 | 0=>0
 | k+1=>if over w (l.getD k aT.zero)=true then zam4 l w k else k+1
theorem zbk5 (l:List aT) (w:aT):∀ k,zam4 l w k≤k
 | 0=>dD _
 | k+1=>by unfold zam4; split <;> have:=zbk5 l w k <;> omega
def bump (e:aT):aT:={ e with bQ:=IntKind.i64.wrap (e.bQ+1) }
def zbh7 (l:List aT) (w:aT) (n:Nat):List aT:=l.take n++w :: (l.drop n).map bump
def insS (l:List aT) (w:aT):List aT×Int×Int :=
 if zY6 l=false then ([],0,2)
 else if zl3 w=false∨w.bQ≠0 then ([],0,1)
 else if 0≤zV0 l w.aN then ([],0,11)
 else if l.length=8 then ([],0,4)
 else (zbh7 l w (zam4 l w l.length),(zam4 l w l.length:Int),0)
theorem zbr5 {l:List aT} (h:zY6 l=true):l.length≤8:=by
 simp only [zY6,bT,bY] at h; exact h.1
theorem zbI1 (l:List aT) (w:aT):zv8 l w=some (insS l w):=by
 unfold zv8 insS
 rw [zbh6,Option.bind_some]
 cases hv:zY6 l with
 | false=>rfl
 | true =>
  have h8:=zbr5 hv
  simp only [cK,bS,fR,cA,zaJ0]
  by_cases hw:zl3 w=false∨w.bQ≠0
  ·rw [bV hw,bV (by rcases hw with h|h <;> simp [h])]
  ·have hw1:zl3 w=true:=by simpa using fun h=>hw (.inl h)
   have hw2:w.bQ=0:=by simpa using fun h=>hw (.inr h)
   rw [bU hw,bU (by simp [hw1,hw2]),zar1 _ _ (by omega),Option.bind_some]
   by_cases hf:0≤zV0 l w.aN
   ·rw [bV hf,bV (cN hf)]
   ·rw [bU hf,bU (by simpa using hf)]
    by_cases h9:l.length=8
    ·rw [bV h9,bV (cN (by omega))]
    ·rw [bU h9,bU (by simp; omega)]
     have h2:=zcp8 (body:=zak0 l w) (fun g=>∃ i:Nat,g=i∧i≤l.length) (fun g=>g.toNat) (fun g=>((zam4 l w g.toNat:Nat):Int)) (fun g ⟨i,g1,g2⟩=>by
      subst g1
      unfold zak0
      cases i with
      | zero=>right; rw [zg6 (by simp),zg6 (by simp)]; rfl
      | succ i =>
       have e2:IntKind.i64.wrap (((i+1:Nat):Int) - 1)=(i:Int):=by rw [zf5 (by omega) (by omega)]; omega
       simp only [e2,Int.toNat_natCast]
       rw [zg6 (by omega),zg6 (by omega),gP]
       by_cases ho:over w (l.getD i aT.zero)=true
       ·left
        rw [bV (by unfold over at ho; simp only [ho,eV,bY]; omega)]
        exact ⟨_,rfl,⟨i,rfl,by omega⟩,by simp only [Int.toNat_natCast]; omega,by simp only [Int.toNat_natCast,zam4,ho,cB]⟩
       ·right
        rw [bU (by rw [bT]; exact fun h=>ho h.2)]
        simp only [zam4,bU ho]) (l.length:Int) ⟨l.length,rfl,dD _⟩
     rw [h2,Option.bind_some]
     simp only [Int.toNat_natCast]
     have hp:=zbk5 l w l.length
     generalize zam4 l w l.length=n at hp
     unfold zaa6
     simp only [Int.toNat_natCast]
     rw [zg6 (by omega),zg6 (by simp; omega),zg6 (by simp; omega)]
     have key:=zcp9 (body:=zaa5 l) l.length (fun i s=>.inl (s++[bump (l.getD i aT.zero)])) (fun s=>s) (fun i s=>s.length≤i+1) (fun i s hi hs=>by
      refine ⟨?_,fun s' h=>by cases h; simp; omega⟩
      unfold zaa5
      rw [bV (cN (by simp only; omega)),zg6 (by simp only; omega),zg6 (by simp only; omega),zf5 (by simp only; omega) (by simp only; omega)]
      rfl) (fun s hs=>by
      unfold zaa5
      rw [bU (by simp)]) (l.length - n) n (l.take n++[w]) (by omega) (by simp only [bX,dB,List.length_cons,List.length_nil]; omega)
     have e3:(l.drop n).take (l.length - n)=l.drop n:=cX (by simp)
     rw [key,zbO7,zbO9 l aT.zero bump _ n (by omega),e3,Option.bind_some]
     simp [zay4,zbh7]
theorem zbv7 (a b:List aT) (hl:a.length < 4611686018427387904):ze4 a b=some (decide (a=b)):=by
 unfold ze4
 by_cases h:a.length=b.length
 ·rw [bU (by simp [h])]
  exact zbz8 a b aT.zero hl h fun i=>rfl
 ·rw [bV (by simp; omega)]
  have:a≠b:=fun e=>h (by rw [e])
  simp [this]
def notP (p:aJ) (w:aT):Bool:=!decide (w.aN=p)
def rmL (l:List aT) (p:aJ):List aT:=l.filter (notP p)
theorem zdp5 (l:List aT) (p:aJ):(rmL l p).length≤l.length:=gV _ _
theorem zas4 (l:List aT) (p:aJ) (hl:l.length < 4294967296):zh4 l p=some (rmL l p,decide ((rmL l p).length < l.length)):=by
 unfold zh4
 have key:=zcO4 (body:=zaa2 l p) l.length (fun i s=>.inl (if notP p (l.getD i aT.zero)=true then s++[l.getD i aT.zero] else s)) (fun s=>s) (fun i s=>s.length≤i) (fun i s hi hs=>by
  refine ⟨?_,fun s' h=>by simp only [eX] at h; subst h; split <;> first|omega|(simp only [bX,List.length_cons,List.length_nil]; omega)⟩
  unfold zaa2
  rw [bV (cN (by simp only; omega)),zg6 (by simp only; omega),zf5 (by simp only; omega) (by simp only; omega)]
  simp only [Int.toNat_natCast]
  by_cases hp:(!decide ((l.getD i aT.zero).aN=p))=true
  ·rw [bV hp,bV (show notP p _=true from hp),zg6 (by omega),zg6 (by omega)]
  ·rw [bU hp,bU (show ¬ notP p _=true from hp)]) (fun s hs=>by
  unfold zaa2
  rw [bU (by simp)]) [] (fP _)
 rw [key,zbO8 l aT.zero (notP p) l.length 0 [] (by omega),List.nil_append,fY,Option.bind_some]
 unfold zax3 rmL
 simp
theorem zbQ5 {p:aJ}:∀ {l:List aT} {i:Nat},zam3 p l i=none ↔ ∀ w ∈ l,w.aN≠p
 | [],i=>by simp [zam3]
 | w :: l,i=>by
  simp only [zam3]
  by_cases h:w.aN=p
  ·simp [h]
  ·simp only [h,cA,zbQ5 (l:=l),cF,forall_eq_or_imp,ne_eq,gX,gD]
theorem zcQ7 {l:List aT} {p:aJ}:¬ 0≤zV0 l p ↔ ∀ w ∈ l,w.aN≠p:=by
 rw [← zbQ5 (i:=0)]
 unfold zV0
 cases zam3 p l 0 <;> simp
theorem zbB4 {w:aT} (h:zl3 w=true):0≤w.bQ∧w.bQ≤3:=by
 unfold zl3 at h
 simp only [bT,bY] at h
 exact ⟨h.1.2,h.2⟩
theorem zdA5 (e:aT):(bump e).aN=e.aN:=rfl
theorem zcr7 (s:ByteArray):zN2 s=zH7 s:=by
 unfold zN2 zH7 zA2
 generalize (s.toList == _)=a
 generalize (s.toList == _)=b
 generalize (s.toList == _)=c
 generalize (s.toList == _)=d
 generalize (s.toList == _)=e
 cases a <;> cases b <;> cases c <;> cases d <;> cases e <;> rfl
def chI (s:ByteArray) (i:Nat):Int:=((s.toList.getD i 0).toNat:Int)
def okC (s:ByteArray) (i:Nat):Bool:=zP9 (chI s i)||(!decide (i=0)&&zD1 (chI s i))
theorem zbv8 (s:ByteArray) (hl:s.size≤12):zc0 (zD2 s) 0=some (if (List.range s.size).all (okC s)=true then .inl () else .inr false):=by
 have key:zc0 (zD2 s) 0=some ((zS5 (fun i=>if okC s i=true then none else some (Sum.inr false)) s.size 0).getD (Sum.inl ())):=by
  refine zJ0 s.size _ (Sum.inl ()) (fun i hi=>?_) ?_
  ·unfold zD2
   rw [bV (by simpa using hi),zg6 (by omega),zf5 (by omega) (by omega)]
   simp only [Int.toNat_natCast]
   have e:((!((decide (97≤((s.toList.getD i 0).toNat:Int)))&&(decide (((s.toList.getD i 0).toNat:Int)≤122))))&&((decide ((i:Int)=0))||(!((((decide (48≤((s.toList.getD i 0).toNat:Int)))&&(decide (((s.toList.getD i 0).toNat:Int)≤57)))||(decide (((s.toList.getD i 0).toNat:Int)=95)))||(decide (((s.toList.getD i 0).toNat:Int)=45))))))=!okC s i:=by
    unfold okC zD1 zP9 chI
    generalize ((s.toList.getD i 0).toNat:Int)=c
    rw [dN]
    simp
    omega
   cases hk:okC s i
   ·rw [hk] at e; exact bV e
   ·rw [hk] at e; exact bU (by rw [show _=false from e]; decide)
  ·unfold zD2
   rw [bU (by simp)]
 rw [key,zS6,← eM]
 cases (List.range s.size).all (okC s) <;> rfl
theorem zbI2 (s:ByteArray) (hl:s.size≤12):zc0 (zH9 s) 0=some (if (List.range s.size).all (fun i=>zD1 (chI s i))=true then .inl () else .inr false):=by
 have key:zc0 (zH9 s) 0=some ((zS5 (fun i=>if zD1 (chI s i)=true then none else some (Sum.inr false)) s.size 0).getD (Sum.inl ())):=by
  refine zJ0 s.size _ (Sum.inl ()) (fun i hi=>?_) ?_
  ·unfold zH9
   rw [bV (by simpa using hi),zg6 (by omega),zf5 (by omega) (by omega)]
   simp only [Int.toNat_natCast]
   show (if (!zD1 (chI s i))=true then _ else _)=_
   cases zD1 (chI s i) <;> rfl
  ·unfold zH9
   rw [bU (by simp)]
 rw [key,zS6,← eM]
 cases (List.range s.size).all (fun i=>zD1 (chI s i)) <;> rfl
def zX5 (s:ByteArray):Bool:=decide (1≤s.size)&&(decide (s.size≤12)&&(!zH7 s&&(List.range s.size).all (okC s)))
theorem zbc5 (s:ByteArray):ze8 s=some (zX5 s):=by
 unfold ze8 zX5
 rw [zcr7]
 by_cases h1:s.size < 1
 ·have:¬ 1≤s.size:=by omega
  rw [bV (by simp; omega)]
  simp [this]
 by_cases h2:12 < s.size
 ·have:¬ s.size≤12:=by omega
  rw [bV (by simp; omega)]
  simp [this]
 cases hr:zH7 s
 ·rw [bU (by simp; omega),zbv8 s (by omega)]
  have a1:1≤s.size:=by omega
  have a2:s.size≤12:=by omega
  simp only [a1,a2,cC,cH,dE]
  cases (List.range s.size).all (okC s) <;> rfl
 ·rw [bV (by simp)]
  simp
theorem zaD3 (s:ByteArray):zh7 s=some (zX5 s):=by
 unfold zh7 zX5
 by_cases h1:s.size < 1
 ·have:¬ 1≤s.size:=by omega
  rw [zg6 (by simp; omega),bV (by simp; omega)]
  simp [this]
 by_cases h2:12 < s.size
 ·have:¬ s.size≤12:=by omega
  rw [zg6 (by simp; omega),bV (by simp; omega)]
  simp [this]
 have a1:1≤s.size:=by omega
 have a2:s.size≤12:=by omega
 rw [zg6 (by intro _; omega)]
 have c0:((s.toList.getD 0 0).toNat:Int)=chI s 0:=rfl
 have d1:decide ((s.size:Int) < 1)=false:=by simp; omega
 have d2:decide (12 < (s.size:Int))=false:=by simp; omega
 simp only [a1,a2,cC,cH,c0,d1,d2,dL]
 have hall:(List.range s.size).all (okC s)=(zP9 (chI s 0)&&(List.range s.size).all fun i=>zD1 (chI s i)):=by
  rw [dN]
  simp only [eJ,eG,bT,okC,dQ,cS,cW]
  constructor
  ·intro h
   refine ⟨?_,fun i hi=>?_⟩
   ·rcases h 0 (by omega) with h|h
    ·exact h
    ·exact absurd rfl h.1
   ·rcases h i hi with h|h
    ·unfold zD1; simp [h]
    ·exact h.2
  ·rintro ⟨h0,h⟩ i hi
   by_cases hz:i=0
   ·subst hz; exact .inl h0
   ·exact .inr ⟨hz,h i hi⟩
 rw [hall]
 cases hr:zH7 s
 ·cases hL:zP9 (chI s 0)
  ·rfl
  ·simp only [cK,eQ,bS,cA,zbI2 s a2,dE,cH]
   cases (List.range s.size).all (fun i=>zD1 (chI s i)) <;> rfl
 ·simp
def resV (r:aI):Bool:=zX5 r.name&&(zf7 r&&(decide (0≤r.home)&&decide (r.home < 4)))
theorem zbQ6 (r:aI):zf1 r=some (resV r):=by
 unfold zf1 resV
 rw [zbc5]
 simp only [Option.bind_some,gP]
theorem zbv9 (r:aI):zj4 r=some (resV r):=by
 unfold zj4 resV
 rw [zaD3,zaV0]
 simp only [Option.bind_some,gP]
def getH (l:List aU) (p:aJ):aC:=match l.find? fun h=>decide (h.aN=p) with
 | some h=>h.aK
 | none=>aC.zero
theorem zbQ7 (l:List aU) (p:aJ):∀ k i,i+k=l.length→((zS5 (fun i=>if (l.getD i aU.zero).aN=p then some (Sum.inr (α:=Unit) (l.getD i aU.zero).aK) else none) k i).getD (Sum.inl ()))=match (l.drop i).find? fun h=>decide (h.aN=p) with
  | some h=>Sum.inr h.aK
  | none=>Sum.inl ()
 | 0,i,h=>by rw [gF (by omega)]; rfl
 | k+1,i,h=>by
  rw [zaA2 l i aU.zero (by omega)]
  simp only [zS5,List.find?_cons]
  by_cases hp:(l.getD i aU.zero).aN=p
  ·simp only [hp,cB,cC,Option.getD_some]
  ·simp only [hp,cA,cJ]
   exact zbQ7 l p k (i+1) (by omega)
theorem zbh8 (l:List aU) (p:aJ) (hl:l.length < 4611686018427387904):zj7 l p=some (getH l p):=by
 unfold zj7
 have key:zc0 (zN1 l p) 0=some ((zS5 (fun i=>if (l.getD i aU.zero).aN=p then some (Sum.inr (α:=Unit) (l.getD i aU.zero).aK) else none) l.length 0).getD (Sum.inl ())):=by
  refine zJ0 l.length _ (Sum.inl ()) (fun i hi=>?_) ?_
  ·unfold zN1
   rw [bV (by simpa using hi),zg6 (by omega),zf5 (by omega) (by omega)]
   simp only [Int.toNat_natCast,bY]
   split <;> rfl
  ·unfold zN1
   rw [bU (by simp)]
 rw [key,zbQ7 l p l.length 0 (by omega),fY]
 unfold getH
 cases l.find? fun h=>decide (h.aN=p) <;> rfl
theorem zaY5 (l:List aU) (p:aJ) (hl:l.length < 4611686018427387904):zm5 l p=some (getH l p):=by
 rw [← zbh8 l p hl]
 unfold zm5 zj7
 have e:zax1 l p=zN1 l p:=funext fun i=>by
  unfold zax1 zN1
  by_cases h:0≤i∧i < (l.length:Int)
  ·simp only [zg6 h]
  ·by_cases hi:i < (l.length:Int)
   ·rw [bV (cN hi),bV (cN hi),gdn h,gdn h]
   ·rw [bU (by simpa using hi),bU (by simpa using hi)]
 rw [e]
 rfl
theorem zaD4 (a:aC):zl7 a=zk5 a:=rfl
abbrev covM (a b:Int):Bool:=zQ0 a b
theorem zaV1 (a b:Int):covM a b=true ↔ (1≤a∧a≤5∧1≤b∧b≤5)∧(a=b∨a=5∨b=1∨a=4∧b≠5):=by
 unfold covM zQ0 zw0
 by_cases h:1≤a∧a≤5∧1≤b∧b≤5
 ·rw [bU (by simp; omega)]
  simp
  omega
 ·rw [bV (by simp; omega)]
  simp
  omega
theorem zbQ8 (a b:Int):zn0 a b=some (covM a b):=by
 unfold zn0 zv0
 rw [zg6 (by simp; omega)]
 congr 1
 rw [dN,zaV1]
 by_cases h:1≤a∧a≤5∧1≤b∧b≤5
 ·obtain ⟨h1,h2,h3,h4⟩:=h
  have ha:a=1∨a=2∨a=3∨a=4∨a=5:=by omega
  have hb:b=1∨b=2∨b=3∨b=4∨b=5:=by omega
  rcases ha with rfl|rfl|rfl|rfl|rfl <;> rcases hb with rfl|rfl|rfl|rfl|rfl <;> decide
 ·constructor
  ·intro hh
   simp only [bT,bY] at hh
   omega
  ·rintro ⟨hh,_⟩; exact absurd hh h
def covA (r:aI) (a b:aC):Bool:=zs4 r a b
theorem zbB5 (r:aI) (a b:aC):zr6 r a b=some (covA r a b):=by
 unfold zr6 covA zs4
 simp only [zbk3,zaD4,zbQ8,Option.bind_some]
 cases zc7 r a <;> cases zc7 r b <;> simp
 cases ha:zk5 a <;> cases hb:zk5 b <;> simp
 split <;> rfl
theorem zaR7 (q:aA) (p:aJ) (hl:q.aR.length < 4611686018427387904):zo0 q p=some (getH q.aR p):=by
 unfold zo0
 rw [zbh8 _ _ hl]; rfl
theorem zG7 (q:aA) (p:aJ) (hl:q.aR.length < 4611686018427387904):zi0 q p=some (getH q.aR p):=by
 unfold zi0
 rw [zaY5 _ _ hl]; rfl
theorem hb (b:Bool):b=true∨b=false:=by cases b <;> simp
def cvI (q:aA) (i:Nat):Bool :=
 let w:=q.aL.getD i aT.zero
 let h:=getH q.aR w.aN
 decide (zV0 q.aL w.aN=(i:Int))&&(!zk5 h&&(zb1 q.aB w.aK&&(covA q.aB w.aK h&&(!decide (w.aK=h)&&(decide (w.bG=0)&&decide (w.bQ=0))))))
def cvOk (q:aA):Bool:=decide (q.aL.length≤8)&&(List.range q.aL.length).all (cvI q)
def wtI (q:aA) (i:Nat):Bool :=
 let w:=q.aV.getD i aT.zero
 zb1 q.aB w.aK&&zk5 (getH q.aR w.aN)
def wtOk (q:aA):Bool:=zY6 q.aV&&(decide (q.aR.length+q.aV.length≤8)&&(List.range q.aV.length).all (wtI q))
theorem zbY4 (q:aA) (hl:q.aR.length < 4611686018427387904) (hc:q.aL.length≤8):zc0 (zz5 q) 0=some (if (List.range q.aL.length).all (cvI q)=true then .inl () else .inr false):=by
 have key:zc0 (zz5 q) 0=some ((zS5 (fun i=>if cvI q i=true then none else some (Sum.inr false)) q.aL.length 0).getD (Sum.inl ())):=by
  refine zJ0 q.aL.length _ (Sum.inl ()) (fun i hi=>?_) ?_
  ·unfold zz5
   rw [bV (by simpa using hi),zg6 (by omega),zf5 (by omega) (by omega),Int.toNat_natCast]
   unfold cvI
   generalize q.aL.getD i aT.zero=w
   rw [zaR7 q _ hl,Option.bind_some,zaI9 _ _ (show q.aL.length < 4611686018427387904 by omega),Option.bind_some]
   simp only [zbB5]
   rcases hb (decide (zV0 q.aL w.aN=(i:Int))) with c1|c1 <;> rcases hb (zk5 (getH q.aR w.aN)) with c2|c2 <;> rcases hb (zb1 q.aB w.aK) with c3|c3 <;> rcases hb (covA q.aB w.aK (getH q.aR w.aN)) with c4|c4 <;>
    rcases hb (decide (w.aK=getH q.aR w.aN)) with c5|c5 <;> rcases hb (decide (w.bG=0)) with c6|c6 <;> rcases hb (decide (w.bQ=0)) with c7|c7 <;>
    simp only [c1,c2,c3,c4,c5,c6,c7,cK,dE,hY,fN,jK,dL,eV,cH,gR,eK,cB,cA,bS,Option.bind_some,eQ,fU]
  ·unfold zz5
   rw [bU (by simp)]
 rw [key,zS6,← eM]
 cases (List.range q.aL.length).all (cvI q) <;> rfl
theorem zaY6 (q:aA) (hl:q.aR.length < 4611686018427387904):zr7 q=some (cvOk q):=by
 unfold zr7 cvOk
 by_cases h:8 < q.aL.length
 ·have:¬ q.aL.length≤8:=by omega
  rw [bV (by simp; omega)]
  simp [this]
 ·have h8:q.aL.length≤8:=by omega
  rw [bU (by simp; omega),zbY4 q hl h8]
  simp only [h8,cC,cH]
  cases (List.range q.aL.length).all (cvI q) <;> rfl
theorem zbQ9 (q:aA) (hl:q.aR.length < 4611686018427387904) (hc:q.aV.length≤8):zc0 (zA6 q) 0=some (if (List.range q.aV.length).all (wtI q)=true then .inl () else .inr false):=by
 have key:zc0 (zA6 q) 0=some ((zS5 (fun i=>if wtI q i=true then none else some (Sum.inr false)) q.aV.length 0).getD (Sum.inl ())):=by
  refine zJ0 q.aV.length _ (Sum.inl ()) (fun i hi=>?_) ?_
  ·unfold zA6
   rw [bV (by simpa using hi),zg6 (by omega),zf5 (by omega) (by omega),Int.toNat_natCast]
   unfold wtI
   generalize q.aV.getD i aT.zero=w
   rw [zaR7 q _ hl]
   rcases hb (zk5 (getH q.aR w.aN)) with c2|c2 <;> rcases hb (zb1 q.aB w.aK) with c3|c3 <;> simp only [c2,c3,cK,dE,hY,fN,jK,dL,eV,cH,gR,eK,cB,cA,bS,Option.bind_some,eQ,fU]
  ·unfold zA6
   rw [bU (by simp)]
 rw [key,zS6,← eM]
 cases (List.range q.aV.length).all (wtI q) <;> rfl
theorem zbm5 (q:aA) (hl:q.aR.length≤1000000):zq6 q=some (wtOk q):=by
 unfold zq6 wtOk
 rw [zbo3,Option.bind_some]
 cases hv:zY6 q.aV
 ·simp
 ·have h8:=zbr5 hv
  rw [zf5 (by omega) (by omega)]
  by_cases h:8 < q.aR.length+q.aV.length
  ·have:¬ q.aR.length+q.aV.length≤8:=by omega
   rw [bV (by simp; omega)]
   simp [this]
  ·have h9:q.aR.length+q.aV.length≤8:=by omega
   rw [bU (by simp; omega),zbQ9 q (by omega) h8]
   simp only [h9,cC,cH]
   cases (List.range q.aV.length).all (wtI q) <;> rfl
def zaR8 (q:aA):Bool:=resV q.aB&&(zK5 q.aB q.aR&&(cvOk q&&(wtOk q&&(decide (0≤q.gen)&&decide (q.gen≤1073741824)))))
theorem zbR0 (q:aA):zP1 q=some (zaR8 q):=by
 unfold zP1 zaR8
 rw [zbQ6,Option.bind_some]
 cases resV q.aB
 ·simp
 ·simp only [cB,zaB5,Option.bind_some,cH]
  cases hv:zK5 q.aB q.aR
  ·simp
  ·have hl:=zam2 hv
   simp only [cB,zaY6 q (by omega),Option.bind_some,cH]
   cases cvOk q
   ·simp
   ·simp only [cB,zbm5 q (by omega),Option.bind_some,cH,gP]
theorem zbR1 (q:aA) (hl:q.aR.length≤1000000) (hc:q.aV.length≤8):zc0 (zao7 q) 0=some (if (List.range q.aV.length).all (wtI q)=true then .inl () else .inr false):=by
 rw [← zbQ9 q (by omega) hc]
 congr 1
 funext i
 unfold zao7 zA6
 by_cases h:0≤i∧i < (q.aV.length:Int)
 ·rw [bV (cN h.2),bV (cN h.2),zg6 h,zg6 h,zg6 (fun _=>h)]
  simp only [zaQ1,zaD4,zaY5 _ _ (show q.aR.length < 4611686018427387904 by omega),zaR7 q _ (show q.aR.length < 4611686018427387904 by omega)]
 ·by_cases hi:i < (q.aV.length:Int)
  ·rw [bV (cN hi),bV (cN hi),gdn h,gdn h]
  ·rw [bU (by simpa using hi),bU (by simpa using hi)]
theorem zbw0 (q:aA) (hl:q.aR.length≤1000000) (hc:q.aL.length≤8):zc0 (zV6 q) 0=some (if (List.range q.aL.length).all (cvI q)=true then .inl () else .inr false):=by
 have key:zc0 (zV6 q) 0=some ((zS5 (fun i=>if cvI q i=true then none else some (Sum.inr false)) q.aL.length 0).getD (Sum.inl ())):=by
  refine zJ0 q.aL.length _ (Sum.inl ()) (fun i hi=>?_) ?_
  ·unfold zV6
   rw [bV (by simpa using hi),zg6 (by omega),zf5 (by omega) (by omega),Int.toNat_natCast]
   unfold cvI covA
   generalize q.aL.getD i aT.zero=w
   rw [zaY5 _ _ (show q.aR.length < 4611686018427387904 by omega),Option.bind_some,zar1 _ _ (show q.aL.length < 4611686018427387904 by omega)]
   simp only [zaD4,zaQ1]
   rcases hb (decide (zV0 q.aL w.aN=(i:Int))) with c1|c1 <;> rcases hb (zk5 (getH q.aR w.aN)) with c2|c2 <;> rcases hb (zb1 q.aB w.aK) with c3|c3 <;> rcases hb (zs4 q.aB w.aK (getH q.aR w.aN)) with c4|c4 <;>
    rcases hb (decide (w.aK=getH q.aR w.aN)) with c5|c5 <;> rcases hb (decide (w.bG=0)) with c6|c6 <;> rcases hb (decide (w.bQ=0)) with c7|c7 <;>
    simp only [c1,c2,c3,c4,c5,c6,c7,cK,dE,hY,fN,jK,dL,eV,cH,gR,eK,cB,cA,bS,Option.bind_some,eQ,fU]
  ·unfold zV6
   rw [bU (by simp)]
 rw [key,zS6,← eM]
 cases (List.range q.aL.length).all (cvI q) <;> rfl
theorem zaM0 (q:aA):zG2 q=some (zaR8 q):=by
 unfold zG2 zaR8 cvOk wtOk
 rw [zbv9,Option.bind_some]
 cases resV q.aB
 ·simp
 ·simp only [cB,zaL9,Option.bind_some,cH]
  cases hv:zK5 q.aB q.aR
  ·simp
  ·have hl:=zam2 hv
   by_cases hc:8 < q.aL.length
   ·have h1:¬ q.aL.length≤8:=by omega
    have h2:decide (8 < (q.aL.length:Int))=true:=by simp; omega
    simp [h1,h2]
   ·have h1:q.aL.length≤8:=by omega
    have h2:decide (8 < (q.aL.length:Int))=false:=by simp; omega
    simp only [h1,h2,cK,eQ,dE,cB,zbh6,Option.bind_some,dL,cC,cH]
    cases hw:zY6 q.aV
    ·simp
    ·have h8:=zbr5 hw
     simp only [cK,dL,cH]
     rw [zf5 (by omega) (by omega)]
     by_cases h:q.aR.length+q.aV.length≤8
     ·by_cases g1:0≤q.gen
      ·by_cases g2:q.gen≤1073741824
       ·rw [bU (by simp; omega),zbw0 q (by omega) h1]
        simp only [h,g1,g2,cC,cH,eV]
        cases (List.range q.aL.length).all (cvI q)
        ·rfl
        ·simp only [cB,Option.bind_some,cH]
         unfold zao8
         rw [zbR1 q (by omega) h8]
         cases (List.range q.aV.length).all (wtI q) <;> rfl
       ·rw [bV (by simp; omega)]; simp [g2]
      ·rw [bV (by simp; omega)]; simp [g1]
     ·rw [bV (by simp; omega)]; simp [h]
def zM8 (q:aA):aT×Bool:=match q.aL++q.aV with
 | w :: _=>(w,true)
 | []=>(aT.zero,false)
theorem zbo4 (q:aA):zm9 q=some (zM8 q):=by
 unfold zm9 zM8
 cases q.aL with
 | cons a l=>rw [bV (by simp),zg6 (by simp)]; rfl
 | nil =>
  rw [bU (by simp)]
  cases q.aV with
  | cons a l=>rw [bV (by simp),zg6 (by simp)]; rfl
  | nil=>rw [bU (by simp)]; rfl
theorem zbo5 (q:aA):zm4 q=some (zM8 q):=by
 rw [← zbo4]; rfl
def zj0 (q:aA):Bool:=zaR8 q&&!((zM8 q).2&&zaI3 q.aB q.aR (zM8 q).1.aN (zM8 q).1.aK)
theorem zbB6 (q:aA):zT0 q=some (zj0 q):=by
 unfold zT0 zj0
 rw [zbR0,Option.bind_some]
 cases zaR8 q
 ·simp
 ·rw [bU (by simp),zbo4,Option.bind_some]
  cases (zM8 q).2 <;> simp [zdp4]
theorem zaV2 (q:aA):zL5 q=some (zj0 q):=by
 unfold zL5 zj0
 rw [zaM0,Option.bind_some]
 cases zaR8 q
 ·simp
 ·rw [bU (by simp),zbo5,Option.bind_some]
  cases (zM8 q).2 <;> simp [zcr4]
theorem zbR2 (q:aA):zab7 q=some (zj0 q):=by
 unfold zab7
 rw [zbB6]; rfl
theorem zam5 (q:aA):zG3 q=some (zj0 q):=by
 unfold zG3
 rw [zaM0,Option.bind_some]
 cases h:zaR8 q
 ·simp [zj0,h]
 ·simp [zaV2]
theorem zbY5 (a b:List aU) (hl:a.length < 4611686018427387904):ze6 a b=some (decide (a=b)):=by
 unfold ze6
 by_cases h:a.length=b.length
 ·rw [bU (by simp [h])]
  exact zbz8 a b aU.zero hl h (fun i=>rfl)
 ·rw [bV (by simp; omega)]
  have:a≠b:=fun e=>h (by rw [e])
  simp [this]
instance:DecidableEq aA:=fun a b=>decidable_of_iff (a.aB=b.aB∧a.aR=b.aR∧a.aL=b.aL∧a.aV=b.aV∧a.gen=b.gen) (by rw [aA.ext_iff])
theorem zbY6 (a b:aA) (h1:a.aR.length < 4611686018427387904) (h2:a.aL.length < 4611686018427387904) (h3:a.aV.length < 4611686018427387904):zo8 a b=some (decide (a=b)):=by
 unfold zo8
 simp only [zbY5 _ _ h1,zbv7 _ _ h2,zbv7 _ _ h3]
 have e:decide (a=b)=(decide (a.aB=b.aB)&&(decide (a.gen=b.gen)&&(decide (a.aR=b.aR)&&(decide (a.aL=b.aL)&&decide (a.aV=b.aV))))):=by
  rw [dN]
  simp only [bY,bT,aA.ext_iff]
  constructor
  ·rintro ⟨a1,a2,a3,a4,a5⟩; exact ⟨a1,a5,a2,a3,a4⟩
  ·rintro ⟨a1,a5,a2,a3,a4⟩; exact ⟨a1,a2,a3,a4,a5⟩
 rw [e]
 cases decide (a.aB=b.aB) <;> cases decide (a.gen=b.gen) <;> cases decide (a.aR=b.aR) <;> cases decide (a.aL=b.aL) <;> cases decide (a.aV=b.aV) <;> rfl
theorem zcB5 (a b:List aT) (ha:a.length≤1000000) (hb:b.length≤1000000):zb4 [a,b]=some (a++b):=by
 unfold zb4
 have s0:zn4 [a,b] (0,0)=some (.inl ((a.length:Int),1)):=by
  unfold zn4
  rw [bV (by simp),zg6 (by simp)]
  show (if decide (IntKind.i64.wrap (0+(a.length:Int)) < 0)=true then none else some (Sum.inl (IntKind.i64.wrap (0+(a.length:Int)),_)))=_
  rw [zf5 (by omega) (by omega),bU (by simp),Int.zero_add]
  rfl
 have s1:zn4 [a,b] ((a.length:Int),1)=some (.inl ((a.length:Int)+(b.length:Int),2)):=by
  unfold zn4
  rw [bV (by simp),zg6 (by simp)]
  show (if decide (IntKind.i64.wrap ((a.length:Int)+(b.length:Int)) < 0)=true then none else some (Sum.inl (IntKind.i64.wrap ((a.length:Int)+(b.length:Int)),_)))=_
  rw [zf5 (by omega) (by omega),bU (by simp; omega)]
  rfl
 have s2:zn4 [a,b] ((a.length:Int)+(b.length:Int),2)=some (.inr ((a.length:Int)+(b.length:Int))):=by
  unfold zn4
  rw [bU (by simp)]
 rw [zf6,s0]
 simp only
 rw [zf6,s1]
 simp only
 rw [zf6,s2]
 simp only [Option.bind_some]
 unfold zx2 zb2
 rw [zg6 (by omega),Option.bind_some]
 have t0:zn3 [a,b] (0,[])=some (.inl (1,a)):=by
  unfold zn3
  rw [bV (by simp),zg6 (by simp),zg6 (by simp; omega)]
  rfl
 have t1:zn3 [a,b] (1,a)=some (.inl (2,a++b)):=by
  unfold zn3
  rw [bV (by simp),zg6 (by simp),zg6 (by simp; omega)]
  rfl
 have t2:zn3 [a,b] (2,a++b)=some (.inr (a++b)):=by
  unfold zn3
  rw [bU (by simp)]
 rw [zf6,t0]
 simp only
 rw [zf6,t1]
 simp only
 rw [zf6,t2]
 rfl
theorem zbR3 (q:aA) (h1:q.aL.length≤1000000) (h2:q.aV.length≤1000000):zp9 q=some (q.aL++q.aV):=by
 unfold zp9
 rw [zcB5 _ _ h1 h2]; rfl
def zbG1 (l:List aT) (p:aJ):aC×Bool:=match l.find? fun w=>decide (w.aN=p) with
 | some w=>(w.aK,true)
 | none=>(aC.zero,false)
def zB1 (q:aA) (p:aJ):aC×Bool:=zbG1 (q.aL++q.aV) p
def upM (a b g:Int):Bool:=covM g a&&covM g b
def supM (a b:Int):Int:=if upM a b 1=true then 1 else if upM a b 2=true then 2 else if upM a b 3=true then 3 else if upM a b 4=true then 4 else if upM a b 5=true then 5 else 0
theorem zde5 {body:Int→Option (Int⊕(Unit⊕Int))} (a b:Int) (hs:∀ g,1≤g→g≤5→body g=some (if upM a b g=true then .inr (.inr g) else .inl (g+1))) (he:body 6=some (.inr (.inl ()))) :
  (zc0 body 1).bind (fun|.inl _=>some 0|.inr z=>some z)=some (supM a b):=by
 unfold supM
 rw [zf6,hs 1 (by decide) (by decide)]
 by_cases c1:upM a b 1=true
 ·simp [c1]
 simp only [c1,bS,cA]
 rw [show (1:Int)+1=2 from rfl,zf6,hs 2 (by decide) (by decide)]
 by_cases c2:upM a b 2=true
 ·simp [c2]
 simp only [c2,bS,cA]
 rw [show (2:Int)+1=3 from rfl,zf6,hs 3 (by decide) (by decide)]
 by_cases c3:upM a b 3=true
 ·simp [c3]
 simp only [c3,bS,cA]
 rw [show (3:Int)+1=4 from rfl,zf6,hs 4 (by decide) (by decide)]
 by_cases c4:upM a b 4=true
 ·simp [c4]
 simp only [c4,bS,cA]
 rw [show (4:Int)+1=5 from rfl,zf6,hs 5 (by decide) (by decide)]
 by_cases c5:upM a b 5=true
 ·simp [c5]
 simp only [c5,bS,cA]
 rw [show (5:Int)+1=6 from rfl,zf6,he]
 rfl
theorem zcj1 (a b:Int):zu3 a b=some (supM a b):=by
 refine zde5 a b (fun g h1 h2=>?_) ?_
 ·unfold zay0
  rw [bV (by simpa using h2),zf5 (by omega) (by omega)]
  rcases hb (covM g a) with c|c <;> rcases hb (covM g b) with d|d <;> simp [upM,c,d]
 ·unfold zay0
  rw [bU (by decide)]
def zav4 (r:aI) (a b:aC):aC :=
 if (!zc7 r a||!zc7 r b)=true then aC.zero else
 if zk5 a=true then b else if zk5 b=true then a else
 if r.kind=1 then { aC.zero with mode:=supM a.mode b.mode } else { aC.zero with aS:=if a.aS < b.aS then b.aS else a.aS }
theorem zde6:∀ a ∈ [(1:Int),2,3,4,5],∀ b ∈ [(1:Int),2,3,4,5],covM a b=true→supM a b=a:=by decide
theorem zcQ8:∀ a ∈ [(1:Int),2,3,4,5],∀ b ∈ [(1:Int),2,3,4,5],covM b a=true→supM a b=b:=by decide
theorem zbo6 (r:aI) (a b:aC):zA8 r a b=some (zav4 r a b):=by
 unfold zA8 zav4
 simp only [zbk3,zcj1,Option.bind_some]
 cases ha:zc7 r a
 ·simp
 cases hpb:zc7 r b
 ·simp
 simp only [cK,eQ,bS,cA]
 unfold zs4
 simp only [zbk3,zaD4,ha,hpb,cK,eQ,bS,cA]
 rcases hb (zk5 a) with hza|hza <;> rcases hb (zk5 b) with hzb|hzb
 rotate_left 3
 ·simp only [hza,hzb,bS,cA]
  by_cases hk:r.kind=1
  ·have pa:=zaB4 ha hk
   have pb:=zaB4 hpb hk
   have na:a.mode≠0:=fun h=>by
    have:a=aC.zero:=by cases a; simp only at *; simp [aC.zero]; omega
    rw [this] at hza; exact absurd hza (by decide)
   have nb:b.mode≠0:=fun h=>by
    have:b=aC.zero:=by cases b; simp only at *; simp [aC.zero]; omega
    rw [this] at hzb; exact absurd hzb (by decide)
   have ma:a.mode ∈ [(1:Int),2,3,4,5]:=by simp; omega
   have mb:b.mode ∈ [(1:Int),2,3,4,5]:=by simp; omega
   have ea:a={ aC.zero with mode:=a.mode }:=by cases a; simp only at *; simp [aC.zero]; omega
   have eb:b={ aC.zero with mode:=b.mode }:=by cases b; simp only at *; simp [aC.zero]; omega
   simp only [hk,cC,cB]
   by_cases c1:covM a.mode b.mode=true
   ·rw [bV c1,zde6 _ ma _ mb c1]; exact cP some ea
   ·rw [bU c1]
    by_cases c2:covM b.mode a.mode=true
    ·rw [bV c2,zcQ8 _ ma _ mb c2]; exact cP some eb
    ·rw [bU c2]
  ·have hk2:r.kind=2:=by
    have:=ha
    rw [perm_iff,zK3,zK4] at this
    omega
   have pa:=zbk4 ha hk2
   have pb:=zbk4 hpb hk2
   have ea:a={ aC.zero with aS:=a.aS }:=by cases a; simp only at *; simp [aC.zero]; omega
   have eb:b={ aC.zero with aS:=b.aS }:=by cases b; simp only at *; simp [aC.zero]; omega
   have d:decide (r.kind=1)=false:=by simpa using hk
   simp only [d,hk,bS,cA,bY]
   by_cases c1:b.aS≤a.aS
   ·have:¬ a.aS < b.aS:=by omega
    rw [bV c1,bU this]; exact cP some ea
   ·have:a.aS < b.aS:=by omega
    have c2:a.aS≤b.aS:=by omega
    rw [bU c1,bV c2,bV this]; exact cP some eb
 ·have e0:a=aC.zero:=by unfold zk5 at hza; simpa using hza
  have e1:b=aC.zero:=by unfold zk5 at hzb; simpa using hzb
  simp only [hza,hzb,cB]
  rw [e0,e1]
 ·simp only [hza,hzb,cB,bS,cA]
 ·simp only [hza,hzb,cB,bS,cA]
theorem zdp6 (g:Int):zm8 g=zm8 g:=rfl
theorem zaD5 (q:aA) (h1:q.aR.length≤1000000) (h2:q.aL.length≤1000000) (h3:q.aV.length≤1000000):zl1 q=some q:=by
 unfold zl1
 rw [zg6 (by omega),zg6 (by omega),zg6 (by omega)]
theorem zbI3 (q:aA) (h1:q.aR.length≤1000000) (h2:q.aL.length≤1000000) (h3:q.aV.length≤1000000):zj1 q=some q:=by
 unfold zj1
 rw [zg6 (by omega),zg6 (by omega),zg6 (by omega)]
def popQ (q:aA):aA :=
 if 0 < q.aL.length then { q with aR:=setL q.aR (zM8 q).1.aN (zM8 q).1.aK,aL:=q.aL.drop 1 }
 else { q with aR:=setL q.aR (zM8 q).1.aN (zM8 q).1.aK,aV:=q.aV.drop 1 }
def canQ (q:aA):Bool:=(zM8 q).2&&zaI3 q.aB q.aR (zM8 q).1.aN (zM8 q).1.aK
def zbw1 (s:aA×List aU):aA×List aU:=(popQ s.1,s.2++[⟨(zM8 s.1).1.aN,(zM8 s.1).1.aK⟩])
def advN:Nat→aA×List aU→aA×List aU
 | 0,s=>s
 | n+1,s=>if canQ s.1=true then advN n (zbw1 s) else s
def zaf7 (q:aA):Nat:=q.aL.length+q.aV.length
def advQ (q:aA):aA×List aU:=advN (zaf7 q) (q,[])
theorem zaJ5 {q:aA} (h:canQ q=true):0 < zaf7 q∧zaf7 (popQ q)+1=zaf7 q∧q.aR.length≤8:=by
 unfold canQ at h
 simp only [bT] at h
 obtain ⟨h1,h2⟩:=h
 have hv:zK5 q.aB q.aR=true:=by
  unfold zaI3 zak2 at h2
  simp only [bT] at h2
  exact h2.1.1
 refine ⟨?_,?_,zam2 hv⟩
 ·unfold zM8 at h1
  unfold zaf7
  cases hc:q.aL with
  | cons a l=>simp; omega
  | nil =>
   cases hw:q.aV with
   | cons a l=>simp
   | nil=>simp [hc,hw] at h1
 ·unfold zM8 at h1
  unfold zaf7 popQ
  cases hc:q.aL with
  | cons a l=>simp; omega
  | nil =>
   cases hw:q.aV with
   | cons a l=>simp
   | nil=>simp [hc,hw] at h1
theorem zbB7 (s:aA×List aU):advN (zaf7 s.1) s=if canQ s.1=true then advN (zaf7 (zbw1 s).1) (zbw1 s) else s:=by
 cases hc:canQ s.1 with
 | false =>
  cases hn:zaf7 s.1 with
  | zero=>rfl
  | succ n=>simp [advN,hc]
 | true =>
  obtain ⟨h1,h2,_⟩:=zaJ5 hc
  have:zaf7 s.1=zaf7 (popQ s.1)+1:=h2.symm
  rw [this]
  simp [advN,hc,zbw1]
theorem zbr6 (p:aJ):∀ (l:List aT) (i:Nat),match zam3 p l i with
  | some j=>i≤j∧(l.find? fun w=>decide (w.aN=p))=some (l.getD (j - i) aT.zero)
  | none=>(l.find? fun w=>decide (w.aN=p))=none
 | [],i=>rfl
 | w :: l,i=>by
  simp only [zam3,List.find?_cons]
  by_cases hp:w.aN=p
  ·simp [hp]
  ·have ih:=zbr6 p l (i+1)
   simp only [hp,cA,cJ]
   cases hf:zam3 p l (i+1) with
   | none=>rw [hf] at ih; exact ih
   | some j =>
    rw [hf] at ih
    obtain ⟨h1,h2⟩:=ih
    refine ⟨by omega,?_⟩
    rw [h2,show j - i=(j - (i+1))+1 by omega,gE]
theorem zbR4 (l:List aT) (p:aJ):zbG1 l p=if 0≤zV0 l p then ((l.getD (zV0 l p).toNat aT.zero).aK,true) else (aC.zero,false):=by
 have h:=zbr6 p l 0
 unfold zbG1 zV0
 cases hf:zam3 p l 0 with
 | none=>rw [hf] at h; simp only at h; rw [h]; rfl
 | some j =>
  rw [hf] at h
  obtain ⟨_,h2⟩:=h
  rw [h2,bV (by simp only; omega)]
  simp
theorem zcj2 (l m:List aT) (p:aJ):zbG1 (l++m) p=if 0≤zV0 l p then zbG1 l p else zbG1 m p:=by
 have h:=zbr6 p l 0
 unfold zbG1 zV0
 rw [List.find?_append]
 cases hf:zam3 p l 0 with
 | none=>rw [hf] at h; simp only at h; rw [h,bU (by decide)]; rfl
 | some j =>
  rw [hf] at h
  obtain ⟨_,h2⟩:=h
  rw [h2,bV (by simp only; omega)]
  rfl
theorem zT1 (q:aA) (p:aJ) (h1:q.aL.length≤1000000) (h2:q.aV.length≤1000000):zi4 q p=some (zB1 q p):=by
 unfold zi4 zB1
 rw [zar1 _ _ (by omega),Option.bind_some,zcj2,zbR4 q.aL,zbR4 q.aV]
 have b1:=zcr6 q.aL p
 have b2:=zcr6 q.aV p
 by_cases c1:0≤zV0 q.aL p
 ·rw [bV (cN c1),zg6 (by omega),bV c1,bV c1]
 ·rw [bU (by simpa using c1),bU c1,zar1 _ _ (by omega),Option.bind_some]
  by_cases c2:0≤zV0 q.aV p
  ·rw [bV (cN c2),zg6 (by omega),bV c2]
  ·rw [bU (by simpa using c2),bU c2]
def optI (o:Option Nat):Int:=match o with
 | some i=>(i:Int)
 | none=>-1
theorem zcQ9 (l:List aT) (p:aJ):zV0 l p=optI (zam3 p l 0):=rfl
theorem zde7 (o:Option Nat):optI (o.map (·+1))=if 0≤optI o then optI o+1 else -1:=by
 cases o with
 | none=>rfl
 | some n =>
  have h:(0:Int)≤optI (some n):=Int.natCast_nonneg n
  rw [bV h]; exact Int.natCast_succ n
theorem zbr7 {l:List aT}:(∀ i,i < l.length→zV0 l (l.getD i aT.zero).aN=i) ↔ (l.map (·.aN)).Nodup:=by
 induction l with
 | nil=>simp
 | cons w l ih =>
  rw [dZ,iF]
  have shift:∀ p i,zam3 p l (i+1)=(zam3 p l i).map (·+1):=by
   intro p
   clear ih
   induction l with
   | nil=>intro i; rfl
   | cons x l ih=>intro i; simp only [zam3]; split <;> simp [ih]
  have hcons:∀ i,zV0 (w :: l) (l.getD i aT.zero).aN=if w.aN=(l.getD i aT.zero).aN then 0 else if 0≤zV0 l (l.getD i aT.zero).aN then zV0 l (l.getD i aT.zero).aN+1 else -1:=fun i=>by
   simp only [zcQ9,zam3,shift]
   by_cases h:w.aN=(l.getD i aT.zero).aN
   ·simp [h,optI]
   ·simp only [h,cA]
    exact zde7 _
  constructor
  ·intro h
   have h1:∀ i,i < l.length→w.aN≠(l.getD i aT.zero).aN∧zV0 l (l.getD i aT.zero).aN=i:=fun i hi=>by
    have:=h (i+1) (by simpa using hi)
    rw [gE,hcons] at this
    split at this
    ·omega
    ·rename_i hne
     split at this
     ·exact ⟨hne,by omega⟩
     ·omega
   refine ⟨fun hm=>?_,ih.1 fun i hi=>(h1 i hi).2⟩
   obtain ⟨x,hx,he⟩:=cQ.1 hm
   obtain ⟨i,hi,rfl⟩:=fK.1 hx
   have:=(h1 i hi).1
   rw [bW,bZ hi] at this
   exact this he.symm
  ·rintro ⟨h1,h2⟩ i hi
   have h3:=ih.2 h2
   cases i with
   | zero=>simp [zV0,zam3]
   | succ i =>
    have hi':i < l.length:=by simpa using hi
    have hne:w.aN≠(l.getD i aT.zero).aN:=fun e=>h1 (cQ.2 ⟨l.getD i aT.zero,by
     rw [bW,bZ hi']; exact gS hi',e.symm⟩)
    rw [gE,hcons,bU hne,h3 i hi',bV (by omega)]
    omega
theorem zaM1 (l:List aT):zY6 l=true ↔ l.length≤8∧(∀ w ∈ l,zl3 w=true)∧(l.map (·.aN)).Nodup:=by
 unfold zY6
 simp only [bT,bY,eJ,eG]
 constructor
 ·rintro ⟨h1,h2⟩
  refine ⟨h1,fun w hw=>?_,zbr7.1 fun i hi=>(h2 i hi).2⟩
  obtain ⟨i,hi,rfl⟩:=fK.1 hw
  have:=(h2 i hi).1
  rwa [bW,bZ hi] at this
 ·rintro ⟨h1,h2,h3⟩
  refine ⟨h1,fun i hi=>⟨h2 _ ?_,zbr7.2 h3 i hi⟩⟩
  rw [bW,bZ hi]
  exact gS hi
theorem zcc7 {l:List aT} (p:aJ) (h:zY6 l=true):zY6 (rmL l p)=true:=by
 rw [zaM1] at h ⊢
 refine ⟨eA (zdp5 l p) h.1,fun w hw=>h.2.1 w ((fH.1 hw).1),?_⟩
 exact (h.2.2).sublist ((gO).map _)
theorem zbG2 (l:List aT) (w:aT):∀ k i,zam4 l w k≤i→i < k→over w (l.getD i aT.zero)=true
 | k+1,i,h1,h2=>by
  unfold zam4 at h1
  split at h1
  ·rename_i ho
   by_cases hi:i=k
   ·subst hi; exact ho
   ·exact zbG2 l w k i h1 (by omega)
  ·omega
theorem zcR0 {l:List aT} {w e:aT} (h:e ∈ l.drop (zam4 l w l.length)):over w e=true:=by
 obtain ⟨i,hi,rfl⟩:=fK.1 h
 have:=zbG2 l w l.length (zam4 l w l.length+i) (by omega) (by simp at hi; omega)
 rw [List.getElem_drop]
 rwa [bW,bZ (by simp at hi; omega)] at this
theorem zbR5 {w e:aT} (h:zl3 e=true) (ho:over w e=true):zl3 (bump e)=true∧(bump e).bQ=e.bQ+1:=by
 have h1:=zbB4 h
 have h2:e.bQ < 3:=by unfold over at ho; simp at ho; exact ho.2
 have h3:(bump e).bQ=e.bQ+1:=by unfold bump; simp only; rw [zf5 (by omega) (by omega)]
 refine ⟨?_,h3⟩
 unfold zl3 at h ⊢
 simp only [bT,bY] at h ⊢
 rw [h3]
 exact ⟨⟨h.1.1,by omega⟩,by omega⟩
theorem zcj3 (l:List aT) (w:aT) (n:Nat):(zbh7 l w n).map (·.aN)=(l.take n).map (·.aN)++w.aN :: (l.drop n).map (·.aN):=by
 unfold zbh7
 rw [fC,dZ,jA]
 rfl
theorem zcB6 {l:List aT} {w:aT} (h:zY6 l=true) (hw:zl3 w=true) (hne:∀ e ∈ l,e.aN≠w.aN) (hl:l.length < 8):zY6 (zbh7 l w (zam4 l w l.length))=true:=by
 rw [zaM1] at h ⊢
 have hn:=zbk5 l w l.length
 have ho:=fun e=>zcR0 (l:=l) (w:=w) (e:=e)
 generalize zam4 l w l.length=n at hn ho
 refine ⟨by simp [zbh7]; omega,fun e he=>?_,?_⟩
 ·simp only [zbh7,cI,cF,cQ] at he
  rcases he with he|rfl|⟨x,hx,rfl⟩
  ·exact h.2.1 e (hI he)
  ·exact hw
  ·exact (zbR5 (h.2.1 x (hJ hx)) (ho x hx)).1
 ·rw [zcj3]
  have h3:=h.2.2
  rw [← eN n l,fC] at h3
  have hin:w.aN ∉ (l.take n).map (·.aN)++(l.drop n).map (·.aN):=by
   rw [← fC,eN]
   intro hm
   obtain ⟨x,hx,he⟩:=cQ.1 hm
   exact hne x hx he
  exact (List.perm_middle.nodup_iff).2 (iF.2 ⟨hin,h3⟩)
theorem zbR6 {p:aJ} {l:List aU} {h:aU}:h ∈ zu9 p l ↔ h ∈ l∧h.aN≠p:=by unfold zu9; simp
theorem zde8 {l m:List aC} (h:l.Sublist m) (hn:∀ a ∈ m,0≤a.aS):sumU l≤sumU m:=by
 induction h with
 | slnil=>exact jG _
 | cons a h ih =>
  have:=ih fun b hb=>hn b (.tail _ hb)
  have:=hn a (.head _)
  simp only [sumU]; omega
 | cons_cons a h ih =>
  have:=ih fun b hb=>hn b (.tail _ hb)
  simp only [sumU]; omega
theorem CompP.sub {r:aI} {l m:List aC} (h:CompP r m) (hs:l.Sublist m):CompP r l where
 perm:=fun a ha=>h.perm a (hs.subset ha)
 sum:=Int.le_trans (zde8 hs fun a ha=>(zag3 (h.perm a ha)).1) h.sum
 pair:=h.pair.sublist hs
theorem GoodP.sub {r:aI} {l m:List aU} (h:GoodP r m) (hs:l.Sublist m):GoodP r l:=⟨fun x hx=>h.each x (hs.subset hx),h.asc.sublist hs⟩
theorem zX6 (r:aI) (l:List aU):zK5 r l=true ↔ zf7 r=true∧l.length≤8∧GoodP r l∧CompP r (l.map (·.aK)):=by
 unfold zK5; simp
theorem zbr8 {r:aI} {l m:List aU} (h:zK5 r m=true) (hs:l.Sublist m):zK5 r l=true:=by
 rw [zX6] at h ⊢
 exact ⟨h.1,eA hs.length_le h.2.1,h.2.2.1.sub hs,h.2.2.2.sub (hs.map _)⟩
theorem zbr9 (p:aJ) (l:List aU):(zu9 p l).Sublist l:=gO
theorem zbB8 (p:aJ) (a:aC) (l:List aU):(insP p a l).Perm (⟨p,a⟩ :: l):=by
 induction l with
 | nil=>exact jB _
 | cons h t ih =>
  simp only [insP]
  split
  ·exact jB _
  ·exact (List.Perm.cons h ih).trans (List.Perm.swap _ _ _)
theorem zcr8 {p:aJ} {a:aC}:∀ {l:List aU},l.Pairwise (fun a b=>ltP a.aN b.aN)→(∀ h ∈ l,h.aN≠p)→(insP p a l).Pairwise fun a b=>ltP a.aN b.aN
 | [],_,_=>by simp [insP]
 | h :: t,hp,hn=>by
  rw [cU] at hp
  simp only [insP]
  split
  ·rename_i hlt
   rw [cU]
   refine ⟨fun x hx=>?_,cU.2 hp⟩
   rcases cF.1 hx with rfl|hx
   ·exact hlt
   ·exact zav1 hlt (hp.1 x hx)
  ·rename_i hlt
   rw [cU]
   refine ⟨fun x hx=>?_,zcr8 hp.2 fun x hx=>hn x (.tail _ hx)⟩
   rcases cF.1 ((zbB8 p a t).mem_iff.1 hx) with rfl|hx
   ·rcases zav2 (hn h (.head _)) with h1|h1
    ·exact h1
    ·exact absurd h1 hlt
   ·exact hp.1 x hx
theorem zbB9 {l m:List aC} (h:l.Perm m):sumU l=sumU m:=by
 induction h with
 | nil=>rfl
 | cons a _ ih=>simp only [sumU,ih]
 | swap a b l=>simp only [sumU]; omega
 | trans _ _ ih1 ih2=>exact ih1.trans ih2
theorem zaY7 {a b:aC} (h:¬ zar0 a b):¬ zar0 b a:=fun ⟨h1,h2,h3⟩=>h ⟨h2,h1,by rw [zbK1]; exact h3⟩
theorem CompP.perm_iff {r:aI} {l m:List aC} (h:l.Perm m):CompP r l ↔ CompP r m:=by
 constructor
 ·intro k
  exact ⟨fun a ha=>k.perm a (h.mem_iff.2 ha),by rw [← zbB9 h]; exact k.sum,(h.pairwise_iff (fun h=>zaY7 h)).1 k.pair⟩
 ·intro k
  exact ⟨fun a ha=>k.perm a (h.mem_iff.1 ha),by rw [zbB9 h]; exact k.sum,(h.pairwise_iff (fun h=>zaY7 h)).2 k.pair⟩
theorem zcr9 {r:aI} {l:List aU} {p:aJ} {a:aC} (hv:zK5 r l=true) (hp:zb6 p=true) (ha:zb1 r a=true) (hlen:(zu9 p l).length+1≤8) :
  zaI3 r l p a=true ↔ (∀ h ∈ zu9 p l,¬ zar0 h.aK a)∧a.aS+sumU ((zu9 p l).map (·.aK))≤r.aS:=by
 have hv':=(zX6 r l).1 hv
 have hz:=zac9 ha
 have ho:=zbr8 hv (zbr9 p l)
 have ho':=(zX6 r _).1 ho
 have hpr:zak2 r l p a=true:=by unfold zak2; simp [hv,hp,ha]
 have hpm:((insP p a (zu9 p l)).map (·.aK)).Perm (a :: (zu9 p l).map (·.aK)):=(zbB8 p a (zu9 p l)).map _
 unfold zaI3
 rw [hpr,cH,zX6]
 unfold setL
 rw [bU hz,CompP.perm_iff hpm]
 constructor
 ·rintro ⟨_,_,_,h4⟩
  refine ⟨fun h hh=>?_,h4.sum⟩
  have:=(cU.1 h4.pair).1 h.aK (cQ.2 ⟨h,hh,rfl⟩)
  exact zaY7 this
 ·rintro ⟨h1,h2⟩
  refine ⟨hv'.1,by rw [zbv6]; exact hlen,⟨fun x hx=>?_,zcr8 ho'.2.2.1.asc fun h hh=>(zbR6.1 hh).2⟩,⟨fun b hb=>?_,h2,?_⟩⟩
  ·rcases cF.1 ((zbB8 p a _).mem_iff.1 hx) with rfl|hx
   ·exact ⟨hp,ha⟩
   ·exact ho'.2.2.1.each x hx
  ·rcases cF.1 hb with rfl|hb
   ·exact zB4 ha
   ·exact ho'.2.2.2.perm b hb
  ·rw [cU]
   refine ⟨fun b hb=>?_,ho'.2.2.2.pair⟩
   obtain ⟨h,hh,rfl⟩:=cQ.1 hb
   exact zaY7 (h1 h hh)
theorem zbR7 {α S X:Type} (f:S→α→S) (fin:S→X):∀ (l:List α) (i:Nat) (s:S),walk (fun _ a s=>some (.inl (f s a))) fin l i s=some (fin (l.foldl f s))
 | [],_,_=>rfl
 | a :: l,i,s=>by simp only [walk,List.foldl_cons]; exact zbR7 f fin l (i+1) _
theorem zde9 (l:List aU) (hl:l.length≤1000000):zh8 l=some (l.map (·.aN)):=by
 unfold zh8
 have key:=zB3 (body:=zW5 l) l aU.zero (fun i (s:List aJ)=>((i:Int),s)) (fun i h s=>some (.inl (zaE6 s (some h.aN)))) (fun s=>s) (fun i s=>s.length≤i)
  (fun i s hi hs=>by
   refine ⟨?_,fun s' h=>?_⟩
   ·unfold zW5
    have h1:s.length+1≤4294967296:=by omega
    have h3:0≤(i:Int)∧(i:Int) < (l.length:Int):=by omega
    simp only [h1,h3.1,h3.2,cV,zm1,cC,cB,Int.toNat_natCast,zc4 i (by omega),Option.map_some,wmap,zaE6]
   ·simp only [dC,eX] at h; subst h; simp [zaE6]; omega)
  (fun s hs=>by unfold zW5; simp) [] (by simp)
 rw [show ((0,[]):Int×List aJ)=(fun (i:Nat) (s:List aJ)=>((i:Int),s)) 0 [] from rfl,key,zaJ4 (fun h:aU=>some h.aN)]
 simp [zat1]
end Ab
end Go.Proofs.YtogpinppgncpmaaGreatDoor
