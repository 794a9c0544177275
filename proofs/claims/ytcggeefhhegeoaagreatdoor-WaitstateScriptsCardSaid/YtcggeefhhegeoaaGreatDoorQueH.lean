import Derived.Test.YtcggeefhhegeoaaGreatDoorLinA
import Derived.Test.YtcggeefhhegeoaaGreatDoorHm29
import Derived.Test.YtcggeefhhegeoaaGreatDoorHm30
namespace Go.Proofs.YtcggeefhhegeoaaGreatDoor
namespace Ab
set_option linter.unusedVariables false
set_option linter.unusedSimpArgs false
theorem zco8 (s:ByteArray):zN1 s=zH0 s:=by
 unfold zN1 zH0 zB6
 generalize (s.toList == _)=a
 generalize (s.toList == _)=b
 generalize (s.toList == _)=c
 generalize (s.toList == _)=d
 generalize (s.toList == _)=e
 cases a <;> cases b <;> cases c <;> cases d <;> cases e <;> rfl
def chI (s:ByteArray) (i:Nat):Int:=((s.toList.getD i 0).toNat:Int)
def okC (s:ByteArray) (i:Nat):Bool:=zP6 (chI s i)||(!decide (i=0)&&zD4 (chI s i))
theorem zbs2 (s:ByteArray) (hl:s.size≤12):zc0 (zD5 s) 0=some (if (List.range s.size).all (okC s)=true then .inl () else .inr false):=by
 have key:zc0 (zD5 s) 0=some ((zL6 (fun i=>if okC s i=true then none else some (Sum.inr false)) s.size 0).getD (Sum.inl ())):=by
  refine zG6 s.size _ (Sum.inl ()) (fun i hi=>?_) ?_
  ·unfold zD5
   rw [if_pos (by simpa using hi),zg7 (by omega),zf6 (by omega) (by omega)]
   simp only [Int.toNat_natCast]
   have e:((!((decide (97≤((s.toList.getD i 0).toNat:Int)))&&(decide (((s.toList.getD i 0).toNat:Int)≤122))))&&((decide ((i:Int)=0))||(!((((decide (48≤((s.toList.getD i 0).toNat:Int)))&&(decide (((s.toList.getD i 0).toNat:Int)≤57)))||(decide (((s.toList.getD i 0).toNat:Int)=95)))||(decide (((s.toList.getD i 0).toNat:Int)=45))))))=!okC s i:=by
    unfold okC zD4 zP6 chI
    generalize ((s.toList.getD i 0).toNat:Int)=c
    rw [Bool.eq_iff_iff]
    simp
    omega
   cases hk:okC s i
   ·rw [hk] at e; exact if_pos e
   ·rw [hk] at e; exact if_neg (by rw [show _=false from e]; decide)
  ·unfold zD5
   rw [if_neg (by simp)]
 rw [key,zS1,← List.range_eq_range']
 cases (List.range s.size).all (okC s) <;> rfl
theorem zbF1 (s:ByteArray) (hl:s.size≤12):zc0 (zH2 s) 0=some (if (List.range s.size).all (fun i=>zD4 (chI s i))=true then .inl () else .inr false):=by
 have key:zc0 (zH2 s) 0=some ((zL6 (fun i=>if zD4 (chI s i)=true then none else some (Sum.inr false)) s.size 0).getD (Sum.inl ())):=by
  refine zG6 s.size _ (Sum.inl ()) (fun i hi=>?_) ?_
  ·unfold zH2
   rw [if_pos (by simpa using hi),zg7 (by omega),zf6 (by omega) (by omega)]
   simp only [Int.toNat_natCast]
   show (if (!zD4 (chI s i))=true then _ else _)=_
   cases zD4 (chI s i) <;> rfl
  ·unfold zH2
   rw [if_neg (by simp)]
 rw [key,zS1,← List.range_eq_range']
 cases (List.range s.size).all (fun i=>zD4 (chI s i)) <;> rfl
def zW0 (s:ByteArray):Bool:=decide (1≤s.size)&&(decide (s.size≤12)&&(!zH0 s&&(List.range s.size).all (okC s)))
theorem zba1 (s:ByteArray):zd7 s=some (zW0 s):=by
 unfold zd7 zW0
 rw [zco8]
 by_cases h1:s.size < 1
 ·have:¬ 1≤s.size:=by omega
  rw [if_pos (by simp; omega)]
  simp [this]
 by_cases h2:12 < s.size
 ·have:¬ s.size≤12:=by omega
  rw [if_pos (by simp; omega)]
  simp [this]
 cases hr:zH0 s
 ·rw [if_neg (by simp; omega),zbs2 s (by omega)]
  have a1:1≤s.size:=by omega
  have a2:s.size≤12:=by omega
  simp only [a1,a2,decide_true,Bool.true_and,Bool.not_false]
  cases (List.range s.size).all (okC s) <;> rfl
 ·rw [if_pos (by simp)]
  simp
theorem zaB3 (s:ByteArray):zh3 s=some (zW0 s):=by
 unfold zh3 zW0
 by_cases h1:s.size < 1
 ·have:¬ 1≤s.size:=by omega
  rw [zg7 (by simp; omega),if_pos (by simp; omega)]
  simp [this]
 by_cases h2:12 < s.size
 ·have:¬ s.size≤12:=by omega
  rw [zg7 (by simp; omega),if_pos (by simp; omega)]
  simp [this]
 have a1:1≤s.size:=by omega
 have a2:s.size≤12:=by omega
 rw [zg7 (by intro _; omega)]
 have c0:((s.toList.getD 0 0).toNat:Int)=chI s 0:=rfl
 have d1:decide ((s.size:Int) < 1)=false:=by simp; omega
 have d2:decide (12 < (s.size:Int))=false:=by simp; omega
 simp only [a1,a2,decide_true,Bool.true_and,c0,d1,d2,Bool.false_or]
 have hall:(List.range s.size).all (okC s)=(zP6 (chI s 0)&&(List.range s.size).all fun i=>zD4 (chI s i)):=by
  rw [Bool.eq_iff_iff]
  simp only [List.all_eq_true,List.mem_range,Bool.and_eq_true,okC,Bool.or_eq_true,Bool.not_eq_true',decide_eq_false_iff_not]
  constructor
  ·intro h
   refine ⟨?_,fun i hi=>?_⟩
   ·rcases h 0 (by omega) with h|h
    ·exact h
    ·exact absurd rfl h.1
   ·rcases h i hi with h|h
    ·unfold zD4; simp [h]
    ·exact h.2
  ·rintro ⟨h0,h⟩ i hi
   by_cases hz:i=0
   ·subst hz; exact .inl h0
   ·exact .inr ⟨hz,h i hi⟩
 rw [hall]
 cases hr:zH0 s
 ·cases hL:zP6 (chI s 0)
  ·rfl
  ·simp only [Bool.not_true,Bool.or_self,Bool.false_eq_true,if_false,zbF1 s a2,Bool.not_false,Bool.true_and]
   cases (List.range s.size).all (fun i=>zD4 (chI s i)) <;> rfl
 ·simp
def resV (r:Resource):Bool:=zW0 r.name&&(zg3 r&&(decide (0≤r.home)&&decide (r.home < 4)))
theorem zbN6 (r:Resource):ze5 r=some (resV r):=by
 unfold ze5 resV
 rw [zba1]
 simp only [Option.bind_some,Bool.and_assoc]
theorem zbs3 (r:Resource):zi5 r=some (resV r):=by
 unfold zi5 resV
 rw [zaB3,zaS8]
 simp only [Option.bind_some,Bool.and_assoc]
def getH (l:List Hold) (p:Proc):Amount:=match l.find? fun h=>decide (h.proc=p) with
 | some h=>h.amount
 | none=>Amount.zero
theorem zbN7 (l:List Hold) (p:Proc):∀ k i,i+k=l.length→((zL6 (fun i=>if (l.getD i Hold.zero).proc=p then some (Sum.inr (α:=Unit) (l.getD i Hold.zero).amount) else none) k i).getD (Sum.inl ()))=match (l.drop i).find? fun h=>decide (h.proc=p) with
  | some h=>Sum.inr h.amount
  | none=>Sum.inl ()
 | 0,i,h=>by rw [List.drop_eq_nil_of_le (by omega)]; rfl
 | k+1,i,h=>by
  rw [zat2 l i Hold.zero (by omega)]
  simp only [zL6,List.find?_cons]
  by_cases hp:(l.getD i Hold.zero).proc=p
  ·simp only [hp,if_true,decide_true,Option.getD_some]
  ·simp only [hp,if_false,decide_false]
   exact zbN7 l p k (i+1) (by omega)
theorem zbe7 (l:List Hold) (p:Proc) (hl:l.length < 4611686018427387904):zj2 l p=some (getH l p):=by
 unfold zj2
 have key:zc0 (zM9 l p) 0=some ((zL6 (fun i=>if (l.getD i Hold.zero).proc=p then some (Sum.inr (α:=Unit) (l.getD i Hold.zero).amount) else none) l.length 0).getD (Sum.inl ())):=by
  refine zG6 l.length _ (Sum.inl ()) (fun i hi=>?_) ?_
  ·unfold zM9
   rw [if_pos (by simpa using hi),zg7 (by omega),zf6 (by omega) (by omega)]
   simp only [Int.toNat_natCast,decide_eq_true_eq]
   split <;> rfl
  ·unfold zM9
   rw [if_neg (by simp)]
 rw [key,zbN7 l p l.length 0 (by omega),List.drop_zero]
 unfold getH
 cases l.find? fun h=>decide (h.proc=p) <;> rfl
theorem zaW0 (l:List Hold) (p:Proc) (hl:l.length < 4611686018427387904):zm5 l p=some (getH l p):=by
 rw [← zbe7 l p hl]
 unfold zm5 zj2
 have e:zav3 l p=zM9 l p:=funext fun i=>by
  unfold zav3 zM9
  by_cases h:0≤i∧i < (l.length:Int)
  ·simp only [zg7 h]
  ·by_cases hi:i < (l.length:Int)
   ·rw [if_pos (decide_eq_true hi),if_pos (decide_eq_true hi),gdn h,gdn h]
   ·rw [if_neg (by simpa using hi),if_neg (by simpa using hi)]
 rw [e]
 rfl
theorem zaB4 (a:Amount):zm0 a=zl2 a:=rfl
abbrev covM (a b:Int):Bool:=zP7 a b
theorem zaS9 (a b:Int):covM a b=true ↔ (1≤a∧a≤5∧1≤b∧b≤5)∧(a=b∨a=5∨b=1∨a=4∧b≠5):=by
 unfold covM zP7 zx6
 by_cases h:1≤a∧a≤5∧1≤b∧b≤5
 ·rw [if_neg (by simp; omega)]
  simp
  omega
 ·rw [if_pos (by simp; omega)]
  simp
  omega
theorem zbN8 (a b:Int):zm7 a b=some (covM a b):=by
 unfold zm7 zv8
 rw [zg7 (by simp; omega)]
 congr 1
 rw [Bool.eq_iff_iff,zaS9]
 by_cases h:1≤a∧a≤5∧1≤b∧b≤5
 ·obtain ⟨h1,h2,h3,h4⟩:=h
  have ha:a=1∨a=2∨a=3∨a=4∨a=5:=by omega
  have hb:b=1∨b=2∨b=3∨b=4∨b=5:=by omega
  rcases ha with rfl|rfl|rfl|rfl|rfl <;> rcases hb with rfl|rfl|rfl|rfl|rfl <;> decide
 ·constructor
  ·intro hh
   simp only [Bool.and_eq_true,decide_eq_true_eq] at hh
   omega
  ·rintro ⟨hh,_⟩; exact absurd hh h
def covA (r:Resource) (a b:Amount):Bool:=zs9 r a b
theorem zbx8 (r:Resource) (a b:Amount):zp5 r a b=some (covA r a b):=by
 unfold zp5 covA zs9
 simp only [zbh6,zaB4,zbN8,Option.bind_some]
 cases zc6 r a <;> cases zc6 r b <;> simp
 cases ha:zl2 a <;> cases hb:zl2 b <;> simp
 split <;> rfl
theorem zaP6 (q:Queue) (p:Proc) (hl:q.holds.length < 4611686018427387904):zn9 q p=some (getH q.holds p):=by
 unfold zn9
 rw [zbe7 _ _ hl]; rfl
theorem zG0 (q:Queue) (p:Proc) (hl:q.holds.length < 4611686018427387904):zi2 q p=some (getH q.holds p):=by
 unfold zi2
 rw [zaW0 _ _ hl]; rfl
theorem hb (b:Bool):b=true∨b=false:=by cases b <;> simp
def cvI (q:Queue) (i:Nat):Bool :=
 let w:=q.converts.getD i Wait.zero
 let h:=getH q.holds w.proc
 decide (zT6 q.converts w.proc=(i:Int))&&(!zl2 h&&(zb3 q.resource w.amount&&(covA q.resource w.amount h&&(!decide (w.amount=h)&&(decide (w.priority=0)&&decide (w.passed=0))))))
def cvOk (q:Queue):Bool:=decide (q.converts.length≤8)&&(List.range q.converts.length).all (cvI q)
def wtI (q:Queue) (i:Nat):Bool :=
 let w:=q.waits.getD i Wait.zero
 zb3 q.resource w.amount&&zl2 (getH q.holds w.proc)
def wtOk (q:Queue):Bool:=zX3 q.waits&&(decide (q.holds.length+q.waits.length≤8)&&(List.range q.waits.length).all (wtI q))
theorem zbV5 (q:Queue) (hl:q.holds.length < 4611686018427387904) (hc:q.converts.length≤8):zc0 (zB0 q) 0=some (if (List.range q.converts.length).all (cvI q)=true then .inl () else .inr false):=by
 have key:zc0 (zB0 q) 0=some ((zL6 (fun i=>if cvI q i=true then none else some (Sum.inr false)) q.converts.length 0).getD (Sum.inl ())):=by
  refine zG6 q.converts.length _ (Sum.inl ()) (fun i hi=>?_) ?_
  ·unfold zB0
   rw [if_pos (by simpa using hi),zg7 (by omega),zf6 (by omega) (by omega),Int.toNat_natCast]
   unfold cvI
   generalize q.converts.getD i Wait.zero=w
   rw [zaP6 q _ hl,Option.bind_some,zaH0 _ _ (show q.converts.length < 4611686018427387904 by omega),Option.bind_some]
   simp only [zbx8]
   rcases hb (decide (zT6 q.converts w.proc=(i:Int))) with c1|c1 <;> rcases hb (zl2 (getH q.holds w.proc)) with c2|c2 <;> rcases hb (zb3 q.resource w.amount) with c3|c3 <;> rcases hb (covA q.resource w.amount (getH q.holds w.proc)) with c4|c4 <;>
    rcases hb (decide (w.amount=getH q.holds w.proc)) with c5|c5 <;> rcases hb (decide (w.priority=0)) with c6|c6 <;> rcases hb (decide (w.passed=0)) with c7|c7 <;>
    simp only [c1,c2,c3,c4,c5,c6,c7,Bool.not_true,Bool.not_false,Bool.or_true,Bool.true_or,Bool.or_false,Bool.false_or,Bool.and_true,Bool.true_and,Bool.and_false,Bool.false_and,if_true,if_false,Bool.false_eq_true,Option.bind_some,Bool.or_self,Bool.and_self]
  ·unfold zB0
   rw [if_neg (by simp)]
 rw [key,zS1,← List.range_eq_range']
 cases (List.range q.converts.length).all (cvI q) <;> rfl
theorem zaW1 (q:Queue) (hl:q.holds.length < 4611686018427387904):zp9 q=some (cvOk q):=by
 unfold zp9 cvOk
 by_cases h:8 < q.converts.length
 ·have:¬ q.converts.length≤8:=by omega
  rw [if_pos (by simp; omega)]
  simp [this]
 ·have h8:q.converts.length≤8:=by omega
  rw [if_neg (by simp; omega),zbV5 q hl h8]
  simp only [h8,decide_true,Bool.true_and]
  cases (List.range q.converts.length).all (cvI q) <;> rfl
theorem zbN9 (q:Queue) (hl:q.holds.length < 4611686018427387904) (hc:q.waits.length≤8):zc0 (zB9 q) 0=some (if (List.range q.waits.length).all (wtI q)=true then .inl () else .inr false):=by
 have key:zc0 (zB9 q) 0=some ((zL6 (fun i=>if wtI q i=true then none else some (Sum.inr false)) q.waits.length 0).getD (Sum.inl ())):=by
  refine zG6 q.waits.length _ (Sum.inl ()) (fun i hi=>?_) ?_
  ·unfold zB9
   rw [if_pos (by simpa using hi),zg7 (by omega),zf6 (by omega) (by omega),Int.toNat_natCast]
   unfold wtI
   generalize q.waits.getD i Wait.zero=w
   rw [zaP6 q _ hl]
   rcases hb (zl2 (getH q.holds w.proc)) with c2|c2 <;> rcases hb (zb3 q.resource w.amount) with c3|c3 <;> simp only [c2,c3,Bool.not_true,Bool.not_false,Bool.or_true,Bool.true_or,Bool.or_false,Bool.false_or,Bool.and_true,Bool.true_and,Bool.and_false,Bool.false_and,if_true,if_false,Bool.false_eq_true,Option.bind_some,Bool.or_self,Bool.and_self]
  ·unfold zB9
   rw [if_neg (by simp)]
 rw [key,zS1,← List.range_eq_range']
 cases (List.range q.waits.length).all (wtI q) <;> rfl
theorem zbj8 (q:Queue) (hl:q.holds.length≤1000000):zp3 q=some (wtOk q):=by
 unfold zp3 wtOk
 rw [zbl1,Option.bind_some]
 cases hv:zX3 q.waits
 ·simp
 ·have h8:=zbn8 hv
  rw [zf6 (by omega) (by omega)]
  by_cases h:8 < q.holds.length+q.waits.length
  ·have:¬ q.holds.length+q.waits.length≤8:=by omega
   rw [if_pos (by simp; omega)]
   simp [this]
  ·have h9:q.holds.length+q.waits.length≤8:=by omega
   rw [if_neg (by simp; omega),zbN9 q (by omega) h8]
   simp only [h9,decide_true,Bool.true_and]
   cases (List.range q.waits.length).all (wtI q) <;> rfl
def zaP7 (q:Queue):Bool:=resV q.resource&&(zK2 q.resource q.holds&&(cvOk q&&(wtOk q&&(decide (0≤q.gen)&&decide (q.gen≤1073741824)))))
theorem zbO0 (q:Queue):zI3 q=some (zaP7 q):=by
 unfold zI3 zaP7
 rw [zbN6,Option.bind_some]
 cases resV q.resource
 ·simp
 ·simp only [if_true,zaz7,Option.bind_some,Bool.true_and]
  cases hv:zK2 q.resource q.holds
  ·simp
  ·have hl:=zak4 hv
   simp only [if_true,zaW1 q (by omega),Option.bind_some,Bool.true_and]
   cases cvOk q
   ·simp
   ·simp only [if_true,zbj8 q (by omega),Option.bind_some,Bool.true_and,Bool.and_assoc]
theorem zbO1 (q:Queue) (hl:q.holds.length≤1000000) (hc:q.waits.length≤8):zc0 (zan1 q) 0=some (if (List.range q.waits.length).all (wtI q)=true then .inl () else .inr false):=by
 rw [← zbN9 q (by omega) hc]
 congr 1
 funext i
 unfold zan1 zB9
 by_cases h:0≤i∧i < (q.waits.length:Int)
 ·rw [if_pos (decide_eq_true h.2),if_pos (decide_eq_true h.2),zg7 h,zg7 h,zg7 (fun _=>h)]
  simp only [zaO0,zaB4,zaW0 _ _ (show q.holds.length < 4611686018427387904 by omega),zaP6 q _ (show q.holds.length < 4611686018427387904 by omega)]
 ·by_cases hi:i < (q.waits.length:Int)
  ·rw [if_pos (decide_eq_true hi),if_pos (decide_eq_true hi),gdn h,gdn h]
  ·rw [if_neg (by simpa using hi),if_neg (by simpa using hi)]
theorem zbs4 (q:Queue) (hl:q.holds.length≤1000000) (hc:q.converts.length≤8):zc0 (zU2 q) 0=some (if (List.range q.converts.length).all (cvI q)=true then .inl () else .inr false):=by
 have key:zc0 (zU2 q) 0=some ((zL6 (fun i=>if cvI q i=true then none else some (Sum.inr false)) q.converts.length 0).getD (Sum.inl ())):=by
  refine zG6 q.converts.length _ (Sum.inl ()) (fun i hi=>?_) ?_
  ·unfold zU2
   rw [if_pos (by simpa using hi),zg7 (by omega),zf6 (by omega) (by omega),Int.toNat_natCast]
   unfold cvI covA
   generalize q.converts.getD i Wait.zero=w
   rw [zaW0 _ _ (show q.holds.length < 4611686018427387904 by omega),Option.bind_some,zap4 _ _ (show q.converts.length < 4611686018427387904 by omega)]
   simp only [zaB4,zaO0]
   rcases hb (decide (zT6 q.converts w.proc=(i:Int))) with c1|c1 <;> rcases hb (zl2 (getH q.holds w.proc)) with c2|c2 <;> rcases hb (zb3 q.resource w.amount) with c3|c3 <;> rcases hb (zs9 q.resource w.amount (getH q.holds w.proc)) with c4|c4 <;>
    rcases hb (decide (w.amount=getH q.holds w.proc)) with c5|c5 <;> rcases hb (decide (w.priority=0)) with c6|c6 <;> rcases hb (decide (w.passed=0)) with c7|c7 <;>
    simp only [c1,c2,c3,c4,c5,c6,c7,Bool.not_true,Bool.not_false,Bool.or_true,Bool.true_or,Bool.or_false,Bool.false_or,Bool.and_true,Bool.true_and,Bool.and_false,Bool.false_and,if_true,if_false,Bool.false_eq_true,Option.bind_some,Bool.or_self,Bool.and_self]
  ·unfold zU2
   rw [if_neg (by simp)]
 rw [key,zS1,← List.range_eq_range']
 cases (List.range q.converts.length).all (cvI q) <;> rfl
theorem zaK2 (q:Queue):zB2 q=some (zaP7 q):=by
 unfold zB2 zaP7 cvOk wtOk
 rw [zbs3,Option.bind_some]
 cases resV q.resource
 ·simp
 ·simp only [if_true,zaK1,Option.bind_some,Bool.true_and]
  cases hv:zK2 q.resource q.holds
  ·simp
  ·have hl:=zak4 hv
   by_cases hc:8 < q.converts.length
   ·have h1:¬ q.converts.length≤8:=by omega
    have h2:decide (8 < (q.converts.length:Int))=true:=by simp; omega
    simp [h1,h2]
   ·have h1:q.converts.length≤8:=by omega
    have h2:decide (8 < (q.converts.length:Int))=false:=by simp; omega
    simp only [h1,h2,Bool.not_true,Bool.or_self,Bool.not_false,if_true,zbe5,Option.bind_some,Bool.false_or,decide_true,Bool.true_and]
    cases hw:zX3 q.waits
    ·simp
    ·have h8:=zbn8 hw
     simp only [Bool.not_true,Bool.false_or,Bool.true_and]
     rw [zf6 (by omega) (by omega)]
     by_cases h:q.holds.length+q.waits.length≤8
     ·by_cases g1:0≤q.gen
      ·by_cases g2:q.gen≤1073741824
       ·rw [if_neg (by simp; omega),zbs4 q (by omega) h1]
        simp only [h,g1,g2,decide_true,Bool.true_and,Bool.and_true]
        cases (List.range q.converts.length).all (cvI q)
        ·rfl
        ·simp only [if_true,Option.bind_some,Bool.true_and]
         unfold zan2
         rw [zbO1 q (by omega) h8]
         cases (List.range q.waits.length).all (wtI q) <;> rfl
       ·rw [if_pos (by simp; omega)]; simp [g2]
      ·rw [if_pos (by simp; omega)]; simp [g1]
     ·rw [if_pos (by simp; omega)]; simp [h]
def zM6 (q:Queue):Wait×Bool:=match q.converts++q.waits with
 | w :: _=>(w,true)
 | []=>(Wait.zero,false)
theorem zbl2 (q:Queue):zm1 q=some (zM6 q):=by
 unfold zm1 zM6
 cases q.converts with
 | cons a l=>rw [if_pos (by simp),zg7 (by simp)]; rfl
 | nil =>
  rw [if_neg (by simp)]
  cases q.waits with
  | cons a l=>rw [if_pos (by simp),zg7 (by simp)]; rfl
  | nil=>rw [if_neg (by simp)]; rfl
theorem zbl3 (q:Queue):zl9 q=some (zM6 q):=by
 rw [← zbl2]; rfl
def zk0 (q:Queue):Bool:=zaP7 q&&!((zM6 q).2&&zaG4 q.resource q.holds (zM6 q).1.proc (zM6 q).1.amount)
theorem zbx9 (q:Queue):zS0 q=some (zk0 q):=by
 unfold zS0 zk0
 rw [zbO0,Option.bind_some]
 cases zaP7 q
 ·simp
 ·rw [if_neg (by simp),zbl2,Option.bind_some]
  cases (zM6 q).2 <;> simp [zdl9]
theorem zaT0 (q:Queue):zD1 q=some (zk0 q):=by
 unfold zD1 zk0
 rw [zaK2,Option.bind_some]
 cases zaP7 q
 ·simp
 ·rw [if_neg (by simp),zbl3,Option.bind_some]
  cases (zM6 q).2 <;> simp [zco5]
theorem zbO2 (q:Queue):zaa7 q=some (zk0 q):=by
 unfold zaa7
 rw [zbx9]; rfl
theorem zak7 (q:Queue):zF7 q=some (zk0 q):=by
 unfold zF7
 rw [zaK2,Option.bind_some]
 cases h:zaP7 q
 ·simp [zk0,h]
 ·simp [zaT0]
theorem zbV6 (a b:List Hold) (hl:a.length < 4611686018427387904):ze1 a b=some (decide (a=b)):=by
 unfold ze1
 by_cases h:a.length=b.length
 ·rw [if_neg (by simp [h])]
  exact zbx2 a b Hold.zero hl h (fun i=>rfl)
 ·rw [if_pos (by simp; omega)]
  have:a≠b:=fun e=>h (by rw [e])
  simp [this]
instance:DecidableEq Queue:=fun a b=>decidable_of_iff (a.resource=b.resource∧a.holds=b.holds∧a.converts=b.converts∧a.waits=b.waits∧a.gen=b.gen) (by rw [Queue.ext_iff])
theorem zbV7 (a b:Queue) (h1:a.holds.length < 4611686018427387904) (h2:a.converts.length < 4611686018427387904) (h3:a.waits.length < 4611686018427387904):zo4 a b=some (decide (a=b)):=by
 unfold zo4
 simp only [zbV6 _ _ h1,zbs1 _ _ h2,zbs1 _ _ h3]
 have e:decide (a=b)=(decide (a.resource=b.resource)&&(decide (a.gen=b.gen)&&(decide (a.holds=b.holds)&&(decide (a.converts=b.converts)&&decide (a.waits=b.waits))))):=by
  rw [Bool.eq_iff_iff]
  simp only [decide_eq_true_eq,Bool.and_eq_true,Queue.ext_iff]
  constructor
  ·rintro ⟨a1,a2,a3,a4,a5⟩; exact ⟨a1,a5,a2,a3,a4⟩
  ·rintro ⟨a1,a5,a2,a3,a4⟩; exact ⟨a1,a2,a3,a4,a5⟩
 rw [e]
 cases decide (a.resource=b.resource) <;> cases decide (a.gen=b.gen) <;> cases decide (a.holds=b.holds) <;> cases decide (a.converts=b.converts) <;> cases decide (a.waits=b.waits) <;> rfl
theorem zcy4 (a b:List Wait) (ha:a.length≤1000000) (hb:b.length≤1000000):zb2 [a,b]=some (a++b):=by
 unfold zb2
 have s0:zo1 [a,b] (0,0)=some (.inl ((a.length:Int),1)):=by
  unfold zo1
  rw [if_pos (by simp),zg7 (by simp)]
  show (if decide (IntKind.i64.wrap (0+(a.length:Int)) < 0)=true then none else some (Sum.inl (IntKind.i64.wrap (0+(a.length:Int)),_)))=_
  rw [zf6 (by omega) (by omega),if_neg (by simp),Int.zero_add]
  rfl
 have s1:zo1 [a,b] ((a.length:Int),1)=some (.inl ((a.length:Int)+(b.length:Int),2)):=by
  unfold zo1
  rw [if_pos (by simp),zg7 (by simp)]
  show (if decide (IntKind.i64.wrap ((a.length:Int)+(b.length:Int)) < 0)=true then none else some (Sum.inl (IntKind.i64.wrap ((a.length:Int)+(b.length:Int)),_)))=_
  rw [zf6 (by omega) (by omega),if_neg (by simp; omega)]
  rfl
 have s2:zo1 [a,b] ((a.length:Int)+(b.length:Int),2)=some (.inr ((a.length:Int)+(b.length:Int))):=by
  unfold zo1
  rw [if_neg (by simp)]
 rw [zg1,s0]
 simp only
 rw [zg1,s1]
 simp only
 rw [zg1,s2]
 simp only [Option.bind_some]
 unfold zy2 zb0
 rw [zg7 (by omega),Option.bind_some]
 have t0:zo0 [a,b] (0,[])=some (.inl (1,a)):=by
  unfold zo0
  rw [if_pos (by simp),zg7 (by simp),zg7 (by simp; omega)]
  rfl
 have t1:zo0 [a,b] (1,a)=some (.inl (2,a++b)):=by
  unfold zo0
  rw [if_pos (by simp),zg7 (by simp),zg7 (by simp; omega)]
  rfl
 have t2:zo0 [a,b] (2,a++b)=some (.inr (a++b)):=by
  unfold zo0
  rw [if_neg (by simp)]
 rw [zg1,t0]
 simp only
 rw [zg1,t1]
 simp only
 rw [zg1,t2]
 rfl
theorem zbe8 (q:Queue) (h1:q.converts.length≤1000000) (h2:q.waits.length≤1000000):zo5 q=some (q.converts++q.waits):=by
 unfold zo5
 rw [zcy4 _ _ h1 h2]; rfl
def zbs5 (l:List Wait) (p:Proc):Amount×Bool:=match l.find? fun w=>decide (w.proc=p) with
 | some w=>(w.amount,true)
 | none=>(Amount.zero,false)
def zA5 (q:Queue) (p:Proc):Amount×Bool:=zbs5 (q.converts++q.waits) p
theorem zbC8 (l:List Wait) (p:Proc):∀ k i,i+k=l.length→((zL6 (fun i=>if (l.getD i Wait.zero).proc=p then some (Sum.inr (α:=Unit) ((l.getD i Wait.zero).amount,true)) else none) k i).getD (Sum.inl ()))=match (l.drop i).find? fun w=>decide (w.proc=p) with
  | some w=>Sum.inr (w.amount,true)
  | none=>Sum.inl ()
 | 0,i,h=>by rw [List.drop_eq_nil_of_le (by omega)]; rfl
 | k+1,i,h=>by
  rw [zat2 l i Wait.zero (by omega)]
  simp only [zL6,List.find?_cons]
  by_cases hp:(l.getD i Wait.zero).proc=p
  ·simp only [hp,if_true,decide_true,Option.getD_some]
  ·simp only [hp,if_false,decide_false]
   exact zbC8 l p k (i+1) (by omega)
theorem zbF2 (q:Queue) (p:Proc) (h1:q.converts.length≤1000000) (h2:q.waits.length≤1000000):zq3 q p=some (zA5 q p):=by
 unfold zq3 zA5
 rw [zbe8 q h1 h2,Option.bind_some]
 have hl:(q.converts++q.waits).length≤2000000:=by rw [List.length_append]; omega
 generalize q.converts++q.waits=l at *
 have key:zc0 (zZ1 p l) 0=some ((zL6 (fun i=>if (l.getD i Wait.zero).proc=p then some (Sum.inr (α:=Unit) ((l.getD i Wait.zero).amount,true)) else none) l.length 0).getD (Sum.inl ())):=by
  refine zG6 l.length _ (Sum.inl ()) (fun i hi=>?_) ?_
  ·unfold zZ1
   rw [if_pos (by simpa using hi),zg7 (by omega),zf6 (by omega) (by omega)]
   simp only [Int.toNat_natCast,decide_eq_true_eq]
   split <;> rfl
  ·unfold zZ1
   rw [if_neg (by simp)]
 rw [key,zbC8 l p l.length 0 (by omega),List.drop_zero]
 unfold zbs5
 cases l.find? fun w=>decide (w.proc=p) <;> rfl
def upM (a b g:Int):Bool:=covM g a&&covM g b
def supM (a b:Int):Int:=if upM a b 1=true then 1 else if upM a b 2=true then 2 else if upM a b 3=true then 3 else if upM a b 4=true then 4 else if upM a b 5=true then 5 else 0
theorem zda8 {body:Int→Option (Int⊕(Unit⊕Int))} (a b:Int) (hs:∀ g,1≤g→g≤5→body g=some (if upM a b g=true then .inr (.inr g) else .inl (g+1))) (he:body 6=some (.inr (.inl ()))) :
  (zc0 body 1).bind (fun|.inl _=>some 0|.inr z=>some z)=some (supM a b):=by
 unfold supM
 rw [zg1,hs 1 (by decide) (by decide)]
 by_cases c1:upM a b 1=true
 ·simp [c1]
 simp only [c1,Bool.false_eq_true,if_false]
 rw [show (1:Int)+1=2 from rfl,zg1,hs 2 (by decide) (by decide)]
 by_cases c2:upM a b 2=true
 ·simp [c2]
 simp only [c2,Bool.false_eq_true,if_false]
 rw [show (2:Int)+1=3 from rfl,zg1,hs 3 (by decide) (by decide)]
 by_cases c3:upM a b 3=true
 ·simp [c3]
 simp only [c3,Bool.false_eq_true,if_false]
 rw [show (3:Int)+1=4 from rfl,zg1,hs 4 (by decide) (by decide)]
 by_cases c4:upM a b 4=true
 ·simp [c4]
 simp only [c4,Bool.false_eq_true,if_false]
 rw [show (4:Int)+1=5 from rfl,zg1,hs 5 (by decide) (by decide)]
 by_cases c5:upM a b 5=true
 ·simp [c5]
 simp only [c5,Bool.false_eq_true,if_false]
 rw [show (5:Int)+1=6 from rfl,zg1,he]
 rfl
theorem zcg3 (a b:Int):zt1 a b=some (supM a b):=by
 refine zda8 a b (fun g h1 h2=>?_) ?_
 ·unfold zaw3
  rw [if_pos (by simpa using h2),zf6 (by omega) (by omega)]
  rcases hb (covM g a) with c|c <;> rcases hb (covM g b) with d|d <;> simp [upM,c,d]
 ·unfold zaw3
  rw [if_neg (by decide)]
def zat6 (r:Resource) (a b:Amount):Amount :=
 if (!zc6 r a||!zc6 r b)=true then Amount.zero else
 if zl2 a=true then b else if zl2 b=true then a else
 if r.kind=1 then { Amount.zero with mode:=supM a.mode b.mode } else { Amount.zero with units:=if a.units < b.units then b.units else a.units }
theorem zda9:∀ a ∈ [(1:Int),2,3,4,5],∀ b ∈ [(1:Int),2,3,4,5],covM a b=true→supM a b=a:=by decide
theorem zcN0:∀ a ∈ [(1:Int),2,3,4,5],∀ b ∈ [(1:Int),2,3,4,5],covM b a=true→supM a b=b:=by decide
theorem zbl4 (r:Resource) (a b:Amount):zA2 r a b=some (zat6 r a b):=by
 unfold zA2 zat6
 simp only [zbh6,zcg3,Option.bind_some]
 cases ha:zc6 r a
 ·simp
 cases hpb:zc6 r b
 ·simp
 simp only [Bool.not_true,Bool.or_self,Bool.false_eq_true,if_false]
 unfold zs9
 simp only [zbh6,zaB4,ha,hpb,Bool.not_true,Bool.or_self,Bool.false_eq_true,if_false]
 rcases hb (zl2 a) with hza|hza <;> rcases hb (zl2 b) with hzb|hzb
 rotate_left 3
 ·simp only [hza,hzb,Bool.false_eq_true,if_false]
  by_cases hk:r.kind=1
  ·have pa:=zaz6 ha hk
   have pb:=zaz6 hpb hk
   have na:a.mode≠0:=fun h=>by
    have:a=Amount.zero:=by cases a; simp only at *; simp [Amount.zero]; omega
    rw [this] at hza; exact absurd hza (by decide)
   have nb:b.mode≠0:=fun h=>by
    have:b=Amount.zero:=by cases b; simp only at *; simp [Amount.zero]; omega
    rw [this] at hzb; exact absurd hzb (by decide)
   have ma:a.mode ∈ [(1:Int),2,3,4,5]:=by simp; omega
   have mb:b.mode ∈ [(1:Int),2,3,4,5]:=by simp; omega
   have ea:a={ Amount.zero with mode:=a.mode }:=by cases a; simp only at *; simp [Amount.zero]; omega
   have eb:b={ Amount.zero with mode:=b.mode }:=by cases b; simp only at *; simp [Amount.zero]; omega
   simp only [hk,decide_true,if_true]
   by_cases c1:covM a.mode b.mode=true
   ·rw [if_pos c1,zda9 _ ma _ mb c1]; exact congrArg some ea
   ·rw [if_neg c1]
    by_cases c2:covM b.mode a.mode=true
    ·rw [if_pos c2,zcN0 _ ma _ mb c2]; exact congrArg some eb
    ·rw [if_neg c2]
  ·have hk2:r.kind=2:=by
    have:=ha
    rw [perm_iff,zK0,zK1] at this
    omega
   have pa:=zbh7 ha hk2
   have pb:=zbh7 hpb hk2
   have ea:a={ Amount.zero with units:=a.units }:=by cases a; simp only at *; simp [Amount.zero]; omega
   have eb:b={ Amount.zero with units:=b.units }:=by cases b; simp only at *; simp [Amount.zero]; omega
   have d:decide (r.kind=1)=false:=by simpa using hk
   simp only [d,hk,Bool.false_eq_true,if_false,decide_eq_true_eq]
   by_cases c1:b.units≤a.units
   ·have:¬ a.units < b.units:=by omega
    rw [if_pos c1,if_neg this]; exact congrArg some ea
   ·have:a.units < b.units:=by omega
    have c2:a.units≤b.units:=by omega
    rw [if_neg c1,if_pos c2,if_pos this]; exact congrArg some eb
 ·have e0:a=Amount.zero:=by unfold zl2 at hza; simpa using hza
  have e1:b=Amount.zero:=by unfold zl2 at hzb; simpa using hzb
  simp only [hza,hzb,if_true]
  rw [e0,e1]
 ·simp only [hza,hzb,if_true,Bool.false_eq_true,if_false]
 ·simp only [hza,hzb,if_true,Bool.false_eq_true,if_false]
theorem zdm1 (g:Int):zn8 g=zn8 g:=rfl
theorem zaB5 (q:Queue) (h1:q.holds.length≤1000000) (h2:q.converts.length≤1000000) (h3:q.waits.length≤1000000):zk6 q=some q:=by
 unfold zk6
 rw [zg7 (by omega),zg7 (by omega),zg7 (by omega)]
theorem zbF3 (q:Queue) (h1:q.holds.length≤1000000) (h2:q.converts.length≤1000000) (h3:q.waits.length≤1000000):zi7 q=some q:=by
 unfold zi7
 rw [zg7 (by omega),zg7 (by omega),zg7 (by omega)]
def popQ (q:Queue):Queue :=
 if 0 < q.converts.length then { q with holds:=setL q.holds (zM6 q).1.proc (zM6 q).1.amount,converts:=q.converts.drop 1 }
 else { q with holds:=setL q.holds (zM6 q).1.proc (zM6 q).1.amount,waits:=q.waits.drop 1 }
def canQ (q:Queue):Bool:=(zM6 q).2&&zaG4 q.resource q.holds (zM6 q).1.proc (zM6 q).1.amount
def zbs6 (s:Queue×List Hold):Queue×List Hold:=(popQ s.1,s.2++[⟨(zM6 s.1).1.proc,(zM6 s.1).1.amount⟩])
def advN:Nat→Queue×List Hold→Queue×List Hold
 | 0,s=>s
 | n+1,s=>if canQ s.1=true then advN n (zbs6 s) else s
def zae4 (q:Queue):Nat:=q.converts.length+q.waits.length
def advQ (q:Queue):Queue×List Hold:=advN (zae4 q) (q,[])
theorem zaH7 {q:Queue} (h:canQ q=true):0 < zae4 q∧zae4 (popQ q)+1=zae4 q∧q.holds.length≤8:=by
 unfold canQ at h
 simp only [Bool.and_eq_true] at h
 obtain ⟨h1,h2⟩:=h
 have hv:zK2 q.resource q.holds=true:=by
  unfold zaG4 zai8 at h2
  simp only [Bool.and_eq_true] at h2
  exact h2.1.1
 refine ⟨?_,?_,zak4 hv⟩
 ·unfold zM6 at h1
  unfold zae4
  cases hc:q.converts with
  | cons a l=>simp; omega
  | nil =>
   cases hw:q.waits with
   | cons a l=>simp
   | nil=>simp [hc,hw] at h1
 ·unfold zM6 at h1
  unfold zae4 popQ
  cases hc:q.converts with
  | cons a l=>simp; omega
  | nil =>
   cases hw:q.waits with
   | cons a l=>simp
   | nil=>simp [hc,hw] at h1
theorem zby0 (s:Queue×List Hold):advN (zae4 s.1) s=if canQ s.1=true then advN (zae4 (zbs6 s).1) (zbs6 s) else s:=by
 cases hc:canQ s.1 with
 | false =>
  cases hn:zae4 s.1 with
  | zero=>rfl
  | succ n=>simp [advN,hc]
 | true =>
  obtain ⟨h1,h2,_⟩:=zaH7 hc
  have:zae4 s.1=zae4 (popQ s.1)+1:=h2.symm
  rw [this]
  simp [advN,hc,zbs6]
theorem zbn9 (p:Proc):∀ (l:List Wait) (i:Nat),match zak5 p l i with
  | some j=>i≤j∧(l.find? fun w=>decide (w.proc=p))=some (l.getD (j - i) Wait.zero)
  | none=>(l.find? fun w=>decide (w.proc=p))=none
 | [],i=>rfl
 | w :: l,i=>by
  simp only [zak5,List.find?_cons]
  by_cases hp:w.proc=p
  ·simp [hp]
  ·have ih:=zbn9 p l (i+1)
   simp only [hp,if_false,decide_false]
   cases hf:zak5 p l (i+1) with
   | none=>rw [hf] at ih; exact ih
   | some j =>
    rw [hf] at ih
    obtain ⟨h1,h2⟩:=ih
    refine ⟨by omega,?_⟩
    rw [h2,show j - i=(j - (i+1))+1 by omega,List.getD_cons_succ]
theorem zbO3 (l:List Wait) (p:Proc):zbs5 l p=if 0≤zT6 l p then ((l.getD (zT6 l p).toNat Wait.zero).amount,true) else (Amount.zero,false):=by
 have h:=zbn9 p l 0
 unfold zbs5 zT6
 cases hf:zak5 p l 0 with
 | none=>rw [hf] at h; simp only at h; rw [h]; rfl
 | some j =>
  rw [hf] at h
  obtain ⟨_,h2⟩:=h
  rw [h2,if_pos (by simp only; omega)]
  simp
theorem zcg4 (l m:List Wait) (p:Proc):zbs5 (l++m) p=if 0≤zT6 l p then zbs5 l p else zbs5 m p:=by
 have h:=zbn9 p l 0
 unfold zbs5 zT6
 rw [List.find?_append]
 cases hf:zak5 p l 0 with
 | none=>rw [hf] at h; simp only at h; rw [h,if_neg (by decide)]; rfl
 | some j =>
  rw [hf] at h
  obtain ⟨_,h2⟩:=h
  rw [h2,if_pos (by simp only; omega)]
  rfl
theorem zL4 (q:Queue) (p:Proc) (h1:q.converts.length≤1000000) (h2:q.waits.length≤1000000):zh4 q p=some (zA5 q p):=by
 unfold zh4 zA5
 rw [zap4 _ _ (by omega),Option.bind_some,zcg4,zbO3 q.converts,zbO3 q.waits]
 have b1:=zco7 q.converts p
 have b2:=zco7 q.waits p
 by_cases c1:0≤zT6 q.converts p
 ·rw [if_pos (decide_eq_true c1),zg7 (by omega),if_pos c1,if_pos c1]
 ·rw [if_neg (by simpa using c1),if_neg c1,zap4 _ _ (by omega),Option.bind_some]
  by_cases c2:0≤zT6 q.waits p
  ·rw [if_pos (decide_eq_true c2),zg7 (by omega),if_pos c2]
  ·rw [if_neg (by simpa using c2),if_neg c2]
def optI (o:Option Nat):Int:=match o with
 | some i=>(i:Int)
 | none=>-1
theorem zcN1 (l:List Wait) (p:Proc):zT6 l p=optI (zak5 p l 0):=rfl
theorem zdb0 (o:Option Nat):optI (o.map (·+1))=if 0≤optI o then optI o+1 else -1:=by
 cases o with
 | none=>rfl
 | some n =>
  have h:(0:Int)≤optI (some n):=Int.natCast_nonneg n
  rw [if_pos h]; exact Int.natCast_succ n
theorem zbo0 {l:List Wait}:(∀ i,i < l.length→zT6 l (l.getD i Wait.zero).proc=i) ↔ (l.map (·.proc)).Nodup:=by
 induction l with
 | nil=>simp
 | cons w l ih =>
  rw [List.map_cons,List.nodup_cons]
  have shift:∀ p i,zak5 p l (i+1)=(zak5 p l i).map (·+1):=by
   intro p
   clear ih
   induction l with
   | nil=>intro i; rfl
   | cons x l ih=>intro i; simp only [zak5]; split <;> simp [ih]
  have hcons:∀ i,zT6 (w :: l) (l.getD i Wait.zero).proc=if w.proc=(l.getD i Wait.zero).proc then 0 else if 0≤zT6 l (l.getD i Wait.zero).proc then zT6 l (l.getD i Wait.zero).proc+1 else -1:=fun i=>by
   simp only [zcN1,zak5,shift]
   by_cases h:w.proc=(l.getD i Wait.zero).proc
   ·simp [h,optI]
   ·simp only [h,if_false]
    exact zdb0 _
  constructor
  ·intro h
   have h1:∀ i,i < l.length→w.proc≠(l.getD i Wait.zero).proc∧zT6 l (l.getD i Wait.zero).proc=i:=fun i hi=>by
    have:=h (i+1) (by simpa using hi)
    rw [List.getD_cons_succ,hcons] at this
    split at this
    ·omega
    ·rename_i hne
     split at this
     ·exact ⟨hne,by omega⟩
     ·omega
   refine ⟨fun hm=>?_,ih.1 fun i hi=>(h1 i hi).2⟩
   obtain ⟨x,hx,he⟩:=List.mem_map.1 hm
   obtain ⟨i,hi,rfl⟩:=List.mem_iff_getElem.1 hx
   have:=(h1 i hi).1
   rw [List.getD_eq_getElem?_getD,List.getElem?_eq_getElem hi] at this
   exact this he.symm
  ·rintro ⟨h1,h2⟩ i hi
   have h3:=ih.2 h2
   cases i with
   | zero=>simp [zT6,zak5]
   | succ i =>
    have hi':i < l.length:=by simpa using hi
    have hne:w.proc≠(l.getD i Wait.zero).proc:=fun e=>h1 (List.mem_map.2 ⟨l.getD i Wait.zero,by
     rw [List.getD_eq_getElem?_getD,List.getElem?_eq_getElem hi']; exact List.getElem_mem hi',e.symm⟩)
    rw [List.getD_cons_succ,hcons,if_neg hne,h3 i hi',if_pos (by omega)]
    omega
theorem zaK3 (l:List Wait):zX3 l=true ↔ l.length≤8∧(∀ w ∈ l,zl8 w=true)∧(l.map (·.proc)).Nodup:=by
 unfold zX3
 simp only [Bool.and_eq_true,decide_eq_true_eq,List.all_eq_true,List.mem_range]
 constructor
 ·rintro ⟨h1,h2⟩
  refine ⟨h1,fun w hw=>?_,zbo0.1 fun i hi=>(h2 i hi).2⟩
  obtain ⟨i,hi,rfl⟩:=List.mem_iff_getElem.1 hw
  have:=(h2 i hi).1
  rwa [List.getD_eq_getElem?_getD,List.getElem?_eq_getElem hi] at this
 ·rintro ⟨h1,h2,h3⟩
  refine ⟨h1,fun i hi=>⟨h2 _ ?_,zbo0.2 h3 i hi⟩⟩
  rw [List.getD_eq_getElem?_getD,List.getElem?_eq_getElem hi]
  exact List.getElem_mem hi
theorem zca1 {l:List Wait} (p:Proc) (h:zX3 l=true):zX3 (rmL l p)=true:=by
 rw [zaK3] at h ⊢
 refine ⟨Nat.le_trans (zdm0 l p) h.1,fun w hw=>h.2.1 w ((List.mem_filter.1 hw).1),?_⟩
 exact (h.2.2).sublist ((List.filter_sublist).map _)
theorem zbC9 (l:List Wait) (w:Wait):∀ k i,zak6 l w k≤i→i < k→over w (l.getD i Wait.zero)=true
 | k+1,i,h1,h2=>by
  unfold zak6 at h1
  split at h1
  ·rename_i ho
   by_cases hi:i=k
   ·subst hi; exact ho
   ·exact zbC9 l w k i h1 (by omega)
  ·omega
theorem zcN2 {l:List Wait} {w e:Wait} (h:e ∈ l.drop (zak6 l w l.length)):over w e=true:=by
 obtain ⟨i,hi,rfl⟩:=List.mem_iff_getElem.1 h
 have:=zbC9 l w l.length (zak6 l w l.length+i) (by omega) (by simp at hi; omega)
 rw [List.getElem_drop]
 rwa [List.getD_eq_getElem?_getD,List.getElem?_eq_getElem (by simp at hi; omega)] at this
theorem zbO4 {w e:Wait} (h:zl8 e=true) (ho:over w e=true):zl8 (bump e)=true∧(bump e).passed=e.passed+1:=by
 have h1:=zbx7 h
 have h2:e.passed < 3:=by unfold over at ho; simp at ho; exact ho.2
 have h3:(bump e).passed=e.passed+1:=by unfold bump; simp only; rw [zf6 (by omega) (by omega)]
 refine ⟨?_,h3⟩
 unfold zl8 at h ⊢
 simp only [Bool.and_eq_true,decide_eq_true_eq] at h ⊢
 rw [h3]
 exact ⟨⟨h.1.1,by omega⟩,by omega⟩
theorem zcg5 (l:List Wait) (w:Wait) (n:Nat):(zbe6 l w n).map (·.proc)=(l.take n).map (·.proc)++w.proc :: (l.drop n).map (·.proc):=by
 unfold zbe6
 rw [List.map_append,List.map_cons,List.map_map]
 rfl
theorem zcy5 {l:List Wait} {w:Wait} (h:zX3 l=true) (hw:zl8 w=true) (hne:∀ e ∈ l,e.proc≠w.proc) (hl:l.length < 8):zX3 (zbe6 l w (zak6 l w l.length))=true:=by
 rw [zaK3] at h ⊢
 have hn:=zbh8 l w l.length
 have ho:=fun e=>zcN2 (l:=l) (w:=w) (e:=e)
 generalize zak6 l w l.length=n at hn ho
 refine ⟨by simp [zbe6]; omega,fun e he=>?_,?_⟩
 ·simp only [zbe6,List.mem_append,List.mem_cons,List.mem_map] at he
  rcases he with he|rfl|⟨x,hx,rfl⟩
  ·exact h.2.1 e (List.mem_of_mem_take he)
  ·exact hw
  ·exact (zbO4 (h.2.1 x (List.mem_of_mem_drop hx)) (ho x hx)).1
 ·rw [zcg5]
  have h3:=h.2.2
  rw [← List.take_append_drop n l,List.map_append] at h3
  have hin:w.proc ∉ (l.take n).map (·.proc)++(l.drop n).map (·.proc):=by
   rw [← List.map_append,List.take_append_drop]
   intro hm
   obtain ⟨x,hx,he⟩:=List.mem_map.1 hm
   exact hne x hx he
  exact (List.perm_middle.nodup_iff).2 (List.nodup_cons.2 ⟨hin,h3⟩)
theorem zbO5 {p:Proc} {l:List Hold} {h:Hold}:h ∈ zv7 p l ↔ h ∈ l∧h.proc≠p:=by unfold zv7; simp
theorem zdb1 {l m:List Amount} (h:l.Sublist m) (hn:∀ a ∈ m,0≤a.units):sumU l≤sumU m:=by
 induction h with
 | slnil=>exact Int.le_refl _
 | cons a h ih =>
  have:=ih fun b hb=>hn b (.tail _ hb)
  have:=hn a (.head _)
  simp only [sumU]; omega
 | cons_cons a h ih =>
  have:=ih fun b hb=>hn b (.tail _ hb)
  simp only [sumU]; omega
theorem CompP.sub {r:Resource} {l m:List Amount} (h:CompP r m) (hs:l.Sublist m):CompP r l where
 perm:=fun a ha=>h.perm a (hs.subset ha)
 sum:=Int.le_trans (zdb1 hs fun a ha=>(zaf1 (h.perm a ha)).1) h.sum
 pair:=h.pair.sublist hs
theorem GoodP.sub {r:Resource} {l m:List Hold} (h:GoodP r m) (hs:l.Sublist m):GoodP r l:=⟨fun x hx=>h.each x (hs.subset hx),h.asc.sublist hs⟩
theorem zW1 (r:Resource) (l:List Hold):zK2 r l=true ↔ zg3 r=true∧l.length≤8∧GoodP r l∧CompP r (l.map (·.amount)):=by
 unfold zK2; simp
theorem zbo1 {r:Resource} {l m:List Hold} (h:zK2 r m=true) (hs:l.Sublist m):zK2 r l=true:=by
 rw [zW1] at h ⊢
 exact ⟨h.1,Nat.le_trans hs.length_le h.2.1,h.2.2.1.sub hs,h.2.2.2.sub (hs.map _)⟩
theorem zbo2 (p:Proc) (l:List Hold):(zv7 p l).Sublist l:=List.filter_sublist
theorem zby1 (p:Proc) (a:Amount) (l:List Hold):(insP p a l).Perm (⟨p,a⟩ :: l):=by
 induction l with
 | nil=>exact List.Perm.refl _
 | cons h t ih =>
  simp only [insP]
  split
  ·exact List.Perm.refl _
  ·exact (List.Perm.cons h ih).trans (List.Perm.swap _ _ _)
theorem zco9 {p:Proc} {a:Amount}:∀ {l:List Hold},l.Pairwise (fun a b=>ltP a.proc b.proc)→(∀ h ∈ l,h.proc≠p)→(insP p a l).Pairwise fun a b=>ltP a.proc b.proc
 | [],_,_=>by simp [insP]
 | h :: t,hp,hn=>by
  rw [List.pairwise_cons] at hp
  simp only [insP]
  split
  ·rename_i hlt
   rw [List.pairwise_cons]
   refine ⟨fun x hx=>?_,List.pairwise_cons.2 hp⟩
   rcases List.mem_cons.1 hx with rfl|hx
   ·exact hlt
   ·exact zat3 hlt (hp.1 x hx)
  ·rename_i hlt
   rw [List.pairwise_cons]
   refine ⟨fun x hx=>?_,zco9 hp.2 fun x hx=>hn x (.tail _ hx)⟩
   rcases List.mem_cons.1 ((zby1 p a t).mem_iff.1 hx) with rfl|hx
   ·rcases zat4 (hn h (.head _)) with h1|h1
    ·exact h1
    ·exact absurd h1 hlt
   ·exact hp.1 x hx
theorem zby2 {l m:List Amount} (h:l.Perm m):sumU l=sumU m:=by
 induction h with
 | nil=>rfl
 | cons a _ ih=>simp only [sumU,ih]
 | swap a b l=>simp only [sumU]; omega
 | trans _ _ ih1 ih2=>exact ih1.trans ih2
theorem zaW2 {a b:Amount} (h:¬ zap3 a b):¬ zap3 b a:=fun ⟨h1,h2,h3⟩=>h ⟨h2,h1,by rw [zbH1]; exact h3⟩
theorem CompP.perm_iff {r:Resource} {l m:List Amount} (h:l.Perm m):CompP r l ↔ CompP r m:=by
 constructor
 ·intro k
  exact ⟨fun a ha=>k.perm a (h.mem_iff.2 ha),by rw [← zby2 h]; exact k.sum,(h.pairwise_iff (fun h=>zaW2 h)).1 k.pair⟩
 ·intro k
  exact ⟨fun a ha=>k.perm a (h.mem_iff.1 ha),by rw [zby2 h]; exact k.sum,(h.pairwise_iff (fun h=>zaW2 h)).2 k.pair⟩
theorem zcp0 {r:Resource} {l:List Hold} {p:Proc} {a:Amount} (hv:zK2 r l=true) (hp:zb6 p=true) (ha:zb3 r a=true) (hlen:(zv7 p l).length+1≤8) :
  zaG4 r l p a=true ↔ (∀ h ∈ zv7 p l,¬ zap3 h.amount a)∧a.units+sumU ((zv7 p l).map (·.amount))≤r.units:=by
 have hv':=(zW1 r l).1 hv
 have hz:=zab7 ha
 have ho:=zbo1 hv (zbo2 p l)
 have ho':=(zW1 r _).1 ho
 have hpr:zai8 r l p a=true:=by unfold zai8; simp [hv,hp,ha]
 have hpm:((insP p a (zv7 p l)).map (·.amount)).Perm (a :: (zv7 p l).map (·.amount)):=(zby1 p a (zv7 p l)).map _
 unfold zaG4
 rw [hpr,Bool.true_and,zW1]
 unfold setL
 rw [if_neg hz,CompP.perm_iff hpm]
 constructor
 ·rintro ⟨_,_,_,h4⟩
  refine ⟨fun h hh=>?_,h4.sum⟩
  have:=(List.pairwise_cons.1 h4.pair).1 h.amount (List.mem_map.2 ⟨h,hh,rfl⟩)
  exact zaW2 this
 ·rintro ⟨h1,h2⟩
  refine ⟨hv'.1,by rw [zbs0]; exact hlen,⟨fun x hx=>?_,zco9 ho'.2.2.1.asc fun h hh=>(zbO5.1 hh).2⟩,⟨fun b hb=>?_,h2,?_⟩⟩
  ·rcases List.mem_cons.1 ((zby1 p a _).mem_iff.1 hx) with rfl|hx
   ·exact ⟨hp,ha⟩
   ·exact ho'.2.2.1.each x hx
  ·rcases List.mem_cons.1 hb with rfl|hb
   ·exact zC4 ha
   ·exact ho'.2.2.2.perm b hb
  ·rw [List.pairwise_cons]
   refine ⟨fun b hb=>?_,ho'.2.2.2.pair⟩
   obtain ⟨h,hh,rfl⟩:=List.mem_map.1 hb
   exact zaW2 (h1 h hh)
theorem zbO6 {α S X:Type} (f:S→α→S) (fin:S→X):∀ (l:List α) (i:Nat) (s:S),walk (fun _ a s=>some (.inl (f s a))) fin l i s=some (fin (l.foldl f s))
 | [],_,_=>rfl
 | a :: l,i,s=>by simp only [walk,List.foldl_cons]; exact zbO6 f fin l (i+1) _
theorem zdb2 (l:List Hold) (hl:l.length≤1000000):zh9 l=some (l.map (·.proc)):=by
 unfold zh9
 have key:=zC3 (body:=zU9 l) l Hold.zero (fun i (s:List Proc)=>((i:Int),s)) (fun i h s=>some (.inl (zaE1 s (some h.proc)))) (fun s=>s) (fun i s=>s.length≤i)
  (fun i s hi hs=>by
   refine ⟨?_,fun s' h=>?_⟩
   ·unfold zU9
    have h1:s.length+1≤4294967296:=by omega
    have h3:0≤(i:Int)∧(i:Int) < (l.length:Int):=by omega
    simp only [h1,h3.1,h3.2,and_self,zm3,decide_true,if_true,Int.toNat_natCast,zc4 i (by omega),Option.map_some,wmap,zaE1]
   ·simp only [Option.some.injEq,Sum.inl.injEq] at h; subst h; simp [zaE1]; omega)
  (fun s hs=>by unfold zU9; simp) [] (by simp)
 rw [show ((0,[]):Int×List Proc)=(fun (i:Nat) (s:List Proc)=>((i:Int),s)) 0 [] from rfl,key,zaH6 (fun h:Hold=>some h.proc)]
 simp [zar0]
theorem zcG2 {α:Type} {P:α→Prop} {l:List α} {z:α}:(∀ i,i < l.length→P (l.getD i z)) ↔ ∀ w ∈ l,P w:=by
 constructor
 ·intro h w hw
  obtain ⟨i,hi,rfl⟩:=List.mem_iff_getElem.1 hw
  have:=h i hi
  rwa [List.getD_eq_getElem?_getD,List.getElem?_eq_getElem hi] at this
 ·intro h i hi
  refine h _ ?_
  rw [List.getD_eq_getElem?_getD,List.getElem?_eq_getElem hi]
  exact List.getElem_mem hi
theorem zdy1 (p:Proc):getH [] p=Amount.zero:=rfl
theorem zY5 (h:Hold) (t:List Hold) (p:Proc):getH (h :: t) p=if h.proc=p then h.amount else getH t p:=by
 unfold getH
 rw [List.find?_cons]
 by_cases e:h.proc=p <;> simp [e]
theorem zaT1 (p:Proc) (l:List Hold):getH (zv7 p l) p=Amount.zero:=by
 induction l with
 | nil=>rfl
 | cons h t ih =>
  rw [zaE3]
  by_cases e:h.proc=p
  ·simp only [e,if_true]; exact ih
  ·simp only [e,if_false,zY5]; exact ih
theorem zae5 {p q:Proc} (hq:q≠p) (l:List Hold):getH (zv7 p l) q=getH l q:=by
 induction l with
 | nil=>rfl
 | cons h t ih =>
  rw [zaE3]
  by_cases e:h.proc=p
  ·simp only [e,if_true,zY5]
   rw [if_neg (fun e2=>hq e2.symm)]; exact ih
  ·simp only [e,if_false,zY5]
   split
   ·rfl
   ·exact ih
theorem zbe9 (p:Proc) (a:Amount):∀ l:List Hold,(∀ h ∈ l,h.proc≠p)→getH (insP p a l) p=a
 | [],_=>by simp [insP,zY5]
 | h :: t,hh=>by
  simp only [insP]
  split
  ·simp [zY5]
  ·simp only [zY5,hh h (.head _),if_false]
   exact zbe9 p a t fun x hx=>hh x (.tail _ hx)
theorem zbs7 {p q:Proc} (a:Amount) (hq:q≠p):∀ l:List Hold,getH (insP p a l) q=getH l q
 | []=>by simp only [insP,zY5]; rw [if_neg (fun e:p=q=>hq e.symm)]
 | h :: t=>by
  simp only [insP]
  split
  ·simp only [zY5]; rw [if_neg (fun e:p=q=>hq e.symm)]
  ·simp only [zY5]
   split
   ·rfl
   ·exact zbs7 a hq t
theorem zaK4 (l:List Hold) (p:Proc) (a:Amount):getH (setL l p a) p=a:=by
 unfold setL
 split
 ·rename_i h; rw [zaT1,h]
 ·exact zbe9 p a _ fun h hh=>(zbO5.1 hh).2
theorem zP0 {p q:Proc} (hq:q≠p) (l:List Hold) (a:Amount):getH (setL l p a) q=getH l q:=by
 unfold setL
 split
 ·exact zae5 hq l
 ·rw [zbs7 a hq]; exact zae5 hq l
theorem zaK5 {l:List Hold} {p:Proc} (h:getH l p≠Amount.zero):(⟨p,getH l p⟩:Hold) ∈ l:=by
 induction l with
 | nil=>exact absurd rfl h
 | cons x t ih =>
  rw [zY5] at h ⊢
  by_cases e:x.proc=p
  ·rw [if_pos e]; subst e; exact .head _
  ·rw [if_neg e] at h ⊢; exact .tail _ (ih h)
theorem zcp1 {l:List Hold} {p:Proc} (h:∀ x ∈ l,x.proc≠p):zv7 p l=l:=List.filter_eq_self.2 fun x hx=>by simpa using h x hx
def Asc (l:List Hold):Prop:=l.Pairwise fun a b=>ltP a.proc b.proc
theorem zbh9 {r:Resource} {l:List Hold} (h:zK2 r l=true):Asc l:=((zW1 r l).1 h).2.2.1.asc
theorem zdb3 {h:Hold} {t:List Hold} (k:Asc (h :: t)):∀ x ∈ t,x.proc≠h.proc:=fun x hx e=>by
 have:=(List.pairwise_cons.1 k).1 x hx
 rw [e] at this; exact zar7 _ this
theorem zcp2 {l:List Hold} (h:Asc l) {p:Proc} (hp:getH l p≠Amount.zero):l.Perm (⟨p,getH l p⟩ :: zv7 p l):=by
 induction l with
 | nil=>exact absurd rfl hp
 | cons x t ih =>
  rw [zY5] at hp ⊢
  rw [zaE3]
  by_cases e:x.proc=p
  ·rw [if_pos e,if_pos e,zcp1 (by rw [← e]; exact zdb3 h)]
   subst e; exact List.Perm.refl _
  ·rw [if_neg e] at hp
   rw [if_neg e,if_neg e]
   exact ((ih (List.pairwise_cons.1 h).2 hp).cons x).trans (List.Perm.swap _ _ _)
theorem zby3 {l:List Hold} (h:Asc l) {p:Proc} (hp:getH l p≠Amount.zero):(zv7 p l).length+1=l.length:=by
 have:=(zcp2 h hp).length_eq
 simpa using this.symm
theorem zcp3 {l:List Hold} (ha:Asc l) {x:Hold} (hx:x ∈ l):getH l x.proc=x.amount:=by
 induction l with
 | nil=>cases hx
 | cons y t ih =>
  rw [zY5]
  rcases List.mem_cons.1 hx with rfl|hx
  ·rw [if_pos rfl]
  ·rw [if_neg (fun e:y.proc=x.proc=>zdb3 ha x hx e.symm)]
   exact ih (List.pairwise_cons.1 ha).2 hx
theorem zat7 {r:Resource} {l:List Hold} (h:zK2 r l=true) (p:Proc):zc6 r (getH l p)=true:=by
 have hv:=(zW1 r l).1 h
 by_cases e:getH l p=Amount.zero
 ·rw [e,perm_iff]; exact .inl ⟨hv.1,rfl⟩
 ·exact zC4 (hv.2.2.1.each _ (zaK5 e)).2
theorem zah5 (a:Amount):zl2 a=true ↔ a=Amount.zero:=by unfold zl2; simp
theorem zap5 (a:Amount):zl2 a=false ↔ a≠Amount.zero:=by rw [← Bool.not_eq_true,zah5]
structure SoundP (q:Queue):Prop where
 res:resV q.resource=true
 hv:zK2 q.resource q.holds=true
 cl:q.converts.length≤8
 cn:(q.converts.map (·.proc)).Nodup
 cg:∀ w ∈ q.converts,getH q.holds w.proc≠Amount.zero∧zb3 q.resource w.amount=true∧covA q.resource w.amount (getH q.holds w.proc)=true∧w.amount≠getH q.holds w.proc∧w.priority=0∧w.passed=0
 wv:zX3 q.waits=true
 wl:q.holds.length+q.waits.length≤8
 wg:∀ w ∈ q.waits,zb3 q.resource w.amount=true∧getH q.holds w.proc=Amount.zero
 gen:0≤q.gen∧q.gen≤1073741824
theorem zbo3 (q:Queue):zaP7 q=true ↔ SoundP q:=by
 have hc:cvOk q=true ↔ q.converts.length≤8∧(q.converts.map (·.proc)).Nodup∧∀ w ∈ q.converts,getH q.holds w.proc≠Amount.zero∧zb3 q.resource w.amount=true∧covA q.resource w.amount (getH q.holds w.proc)=true∧w.amount≠getH q.holds w.proc∧w.priority=0∧w.passed=0:=by
  unfold cvOk
  rw [← zbo0,← zcG2 (z:=Wait.zero)]
  simp only [Bool.and_eq_true,decide_eq_true_eq,List.all_eq_true,List.mem_range,cvI,Bool.not_eq_true',zap5,decide_eq_false_iff_not]
  constructor
  ·rintro ⟨h1,h2⟩; exact ⟨h1,fun i hi=>(h2 i hi).1,fun i hi=>(h2 i hi).2⟩
  ·rintro ⟨h1,h2,h3⟩; exact ⟨h1,fun i hi=>⟨h2 i hi,h3 i hi⟩⟩
 have hw:wtOk q=true ↔ zX3 q.waits=true∧q.holds.length+q.waits.length≤8∧∀ w ∈ q.waits,zb3 q.resource w.amount=true∧getH q.holds w.proc=Amount.zero:=by
  unfold wtOk
  rw [← zcG2 (z:=Wait.zero)]
  simp only [Bool.and_eq_true,decide_eq_true_eq,List.all_eq_true,List.mem_range,wtI,zah5]
 unfold zaP7
 simp only [Bool.and_eq_true,hc,hw,decide_eq_true_eq]
 constructor
 ·rintro ⟨h1,h2,⟨h3,h4,h5⟩,⟨h6,h7,h8⟩,h9⟩; exact ⟨h1,h2,h3,h4,h5,h6,h7,h8,h9⟩
 ·rintro ⟨h1,h2,h3,h4,h5,h6,h7,h8,h9⟩; exact ⟨h1,h2,⟨h3,h4,h5⟩,⟨h6,h7,h8⟩,h9⟩
theorem SoundP.apart {q:Queue} (h:SoundP q) {c w:Wait} (hc:c ∈ q.converts) (hw:w ∈ q.waits):c.proc≠w.proc:=fun e =>
 (h.cg c hc).1 (by rw [e]; exact (h.wg w hw).2)
inductive Pop (q:Queue):Prop where
 | con (w:Wait) (cs:List Wait) (h:q.converts=w :: cs) (hd:(zM6 q).1=w) (hr:zaG4 q.resource q.holds w.proc w.amount=true) (hp:popQ q={ q with holds:=setL q.holds w.proc w.amount,converts:=cs })
 | wait (w:Wait) (ws:List Wait) (hc:q.converts=[]) (h:q.waits=w :: ws) (hd:(zM6 q).1=w) (hr:zaG4 q.resource q.holds w.proc w.amount=true) (hp:popQ q={ q with holds:=setL q.holds w.proc w.amount,waits:=ws })
theorem zcy6 {q:Queue} (h:canQ q=true):Pop q:=by
 unfold canQ at h
 rw [Bool.and_eq_true] at h
 obtain ⟨h1,h2⟩:=h
 cases hc:q.converts with
 | cons w cs =>
  have hd:(zM6 q).1=w:=by unfold zM6; rw [hc]; rfl
  exact .con w cs hc hd (by rw [← hd]; exact h2) (by unfold popQ; rw [hd]; simp [hc])
 | nil =>
  cases hw:q.waits with
  | cons w ws =>
   have hd:(zM6 q).1=w:=by unfold zM6; rw [hc,hw]; rfl
   exact .wait w ws hc hw hd (by rw [← hd]; exact h2) (by unfold popQ; rw [hd]; simp [hc,hw])
  | nil=>unfold zM6 at h1; rw [hc,hw] at h1; exact absurd h1 (by decide)
theorem zaz8 {r:Resource} {l:List Hold} {p:Proc} {a:Amount} (h:zaG4 r l p a=true):zK2 r l=true∧zb6 p=true∧zb3 r a=true∧zK2 r (setL l p a)=true:=by
 unfold zaG4 zai8 at h
 simp only [Bool.and_eq_true] at h
 exact ⟨h.1.1,h.1.2.1,h.1.2.2,h.2⟩
theorem zca2 {r:Resource} {l:List Hold} {p:Proc} (a:Amount) (h:zK2 r l=true) (hp:getH l p≠Amount.zero):(setL l p a).length≤l.length:=by
 have:=zby3 (zbh9 h) hp
 unfold setL
 split
 ·omega
 ·rw [zbs0]; omega
theorem zcp4 {w:Wait} {l:List Wait} (h:zX3 (w :: l)=true):zX3 l=true:=by
 rw [zaK3] at h ⊢
 obtain ⟨h1,h2,h3⟩:=h
 rw [List.map_cons,List.nodup_cons] at h3
 exact ⟨by simp at h1; omega,fun x hx=>h2 x (.tail _ hx),h3.2⟩
theorem SoundP.pop {q:Queue} (h:SoundP q) (hc:canQ q=true):SoundP (popQ q):=by
 cases zcy6 hc with
 | con w cs he hd hr hp =>
  rw [hp]
  obtain ⟨_,_,_,hv⟩:=zaz8 hr
  have hn:w.proc ∉ cs.map (·.proc)∧(cs.map (·.proc)).Nodup:=by have:=h.cn; rw [he,List.map_cons,List.nodup_cons] at this; exact this
  have hw:=h.cg w (by rw [he]; exact .head _)
  have hl:=zca2 w.amount h.hv hw.1
  have h8:=h.cl
  rw [he,List.length_cons] at h8
  refine ⟨h.res,hv,by simp only; omega,hn.2,fun c hcc=>?_,h.wv,?_,fun x hx=>?_,h.gen⟩
  ·have hne:c.proc≠w.proc:=fun e=>hn.1 (List.mem_map.2 ⟨c,hcc,e⟩)
   simp only [zP0 hne]
   exact h.cg c (by rw [he]; exact .tail _ hcc)
  ·have:=h.wl; simp only; omega
  ·have hne:x.proc≠w.proc:=fun e=>h.apart (c:=w) (by rw [he]; exact .head _) hx e.symm
   simp only [zP0 hne]
   exact h.wg x hx
 | wait w ws hcn he hd hr hp =>
  rw [hp]
  obtain ⟨_,_,_,hv⟩:=zaz8 hr
  have hl:=zda7 q.holds w.proc w.amount
  have h8:=h.wl
  have hwv:=h.wv
  rw [he] at h8 hwv
  have hn:w.proc ∉ ws.map (·.proc):=by have:=((zaK3 _).1 hwv).2.2; rw [List.map_cons,List.nodup_cons] at this; exact this.1
  rw [List.length_cons] at h8
  refine ⟨h.res,hv,h.cl,h.cn,fun c hcc=>?_,zcp4 hwv,by simp only; omega,fun x hx=>?_,h.gen⟩
  ·rw [hcn] at hcc; cases hcc
  ·have hne:x.proc≠w.proc:=fun e=>hn (List.mem_map.2 ⟨x,hx,e⟩)
   simp only [zP0 hne]
   exact h.wg x (by rw [he]; exact .tail _ hx)
theorem zbf0:∀ (n:Nat) (q:Queue) (l:List Hold),advN n (q,l)=((advN n (q,[])).1,l++(advN n (q,[])).2)
 | 0,q,l=>by simp [advN]
 | n+1,q,l=>by
  simp only [advN]
  split
  ·unfold zbs6
   simp only [List.nil_append]
   rw [zbf0 n (popQ q) (l++_),zbf0 n (popQ q) [_],List.append_assoc]
  ·simp
def advS (q:Queue):Queue:=(advQ q).1
def advG (q:Queue):List Hold:=(advQ q).2
theorem zbi0 (q:Queue):advQ q=if canQ q=true then ((advQ (popQ q)).1,⟨(zM6 q).1.proc,(zM6 q).1.amount⟩ :: (advQ (popQ q)).2) else (q,[]):=by
 unfold advQ
 rw [zby0 (q,[])]
 show (if canQ q=true then advN (zae4 (popQ q)) (popQ q,[]++[_]) else (q,[]))=_
 split
 ·rw [zbf0]; rfl
 ·rfl
theorem zbO7 {q:Queue} (h:canQ q=true):advS q=advS (popQ q):=by unfold advS; rw [zbi0 q,if_pos h]
theorem zdb4 {q:Queue} (h:canQ q=true):advG q=⟨(zM6 q).1.proc,(zM6 q).1.amount⟩ :: advG (popQ q):=by unfold advG; rw [zbi0 q,if_pos h]
theorem zbO8 {q:Queue} (h:canQ q=false):advS q=q:=by unfold advS; rw [zbi0 q,h]; rfl
theorem zdb5 {q:Queue} (h:canQ q=false):advG q=[]:=by unfold advG; rw [zbi0 q,h]; rfl
theorem zbs8 {P:Queue→Prop} (h:∀ q,canQ q=true→P q→P (popQ q)):∀ q,P q→P (advS q):=by
 have key:∀ n q,zae4 q=n→P q→P (advS q):=by
  intro n
  induction n using Nat.strongRecOn with
  | _ n ih =>
   intro q hn hq
   cases hc:canQ q with
   | false=>rw [zbO8 hc]; exact hq
   | true =>
    rw [zbO7 hc]
    have:=(zaH7 hc).2.1
    exact ih (zae4 (popQ q)) (by omega) _ rfl (h q hc hq)
 exact fun q hq=>key _ q rfl hq
theorem zcG3 {P:Queue→Prop} (h0:∀ q,canQ q=false→P q) (h:∀ q,canQ q=true→P (popQ q)→P q):∀ q,P q:=by
 have key:∀ n q,zae4 q=n→P q:=by
  intro n
  induction n using Nat.strongRecOn with
  | _ n ih =>
   intro q hn
   cases hc:canQ q with
   | false=>exact h0 q hc
   | true =>
    have:=(zaH7 hc).2.1
    exact h q hc (ih (zae4 (popQ q)) (by omega) _ rfl)
 exact fun q=>key _ q rfl
theorem zdb6:∀ q,canQ (advS q)=false:=by
 refine zcG3 (fun q h=>by rw [zbO8 h]; exact h) fun q h ih=>by rw [zbO7 h]; exact ih
theorem SoundP.adv {q:Queue} (h:SoundP q):SoundP (advS q):=zbs8 (P:=SoundP) (fun _ hc h=>h.pop hc) q h
theorem zx5 (q:Queue):zk0 q=true ↔ SoundP q∧canQ q=false:=by
 unfold zk0
 rw [Bool.and_eq_true,zbo3]
 show SoundP q∧(!canQ q)=true ↔ _
 rw [Bool.not_eq_true']
theorem zdb7:∀ q,(advG q).length+zae4 (advS q)=zae4 q:=by
 refine zcG3 (fun q h=>by rw [zbO8 h,zdb5 h]; simp) fun q h ih=>by
  rw [zbO7 h,zdb4 h,List.length_cons]
  have:=(zaH7 h).2.1
  omega
theorem zdm2 (r:Resource) (a b:Amount):covA r a b=(!(!zc6 r a||!zc6 r b)&&(zl2 b||(!zl2 a&&(if r.kind=1 then covM a.mode b.mode else decide (b.units≤a.units))))):=by
 have e1:=zbh6 r a
 have e2:=zbh6 r b
 have e3:=zaB4 a
 have e4:=zaB4 b
 have h:covA r a b=(!(!zu3 r a||!zu3 r b)&&(zm0 b||(!zm0 a&&(if r.kind=1 then covM a.mode b.mode else decide (b.units≤a.units))))):=by
  unfold covA zs9
  generalize (!zu3 r a||!zu3 r b)=x
  generalize zm0 b=y
  generalize zm0 a=z
  by_cases hk:r.kind=1 <;> cases x <;> cases y <;> cases z <;> simp [hk]
 rw [h,e1,e2,e3,e4]
theorem zaa2 (r:Resource) (a b:Amount):covA r a b=true ↔ zc6 r a=true∧zc6 r b=true∧(b=Amount.zero∨a≠Amount.zero∧b≠Amount.zero∧((r.kind=1∧covM a.mode b.mode=true)∨(r.kind≠1∧b.units≤a.units))):=by
 rw [zdm2]
 have za:=zah5 a
 have zb:=zah5 b
 simp only [Bool.and_eq_true,Bool.or_eq_true,Bool.not_eq_true',Bool.or_eq_false_iff,Bool.not_eq_false',zb,zap5]
 by_cases e:b=Amount.zero
 ·simp [e,and_assoc]
 ·by_cases hk:r.kind=1 <;> simp [e,hk,and_assoc]
theorem zan6 {r:Resource} {a:Amount} (h:zc6 r a=true):covA r a a=true:=by
 rw [zaa2]
 refine ⟨h,h,?_⟩
 by_cases e:a=Amount.zero
 ·exact .inl e
 ·refine .inr ⟨e,e,?_⟩
  by_cases hk:r.kind=1
  ·left
   refine ⟨hk,?_⟩
   have:=zaz6 h hk
   have hm:a.mode≠0:=fun hm=>e (by obtain ⟨m,u⟩:=a; simp only at *; unfold Amount.zero; congr; omega)
   rw [zaS9]; omega
  ·exact .inr ⟨hk,Int.le_refl _⟩
theorem zby4 {r:Resource} {a:Amount} (h:zc6 r a=true) (hs:zg3 r=true):covA r a Amount.zero=true:=by
 rw [zaa2]; exact ⟨h,(perm_iff r _).2 (.inl ⟨hs,rfl⟩),.inl rfl⟩
theorem zaW3 {r:Resource} {a b c:Amount} (h1:covA r a b=true) (h2:covA r b c=true):covA r a c=true:=by
 rw [zaa2] at h1 h2 ⊢
 refine ⟨h1.1,h2.2.1,?_⟩
 rcases h2.2.2 with e|⟨hb0,hc0,h3⟩
 ·exact .inl e
 ·rcases h1.2.2 with e|⟨ha0,_,h4⟩
  ·exact absurd e hb0
  ·refine .inr ⟨ha0,hc0,?_⟩
   rcases h3 with ⟨k,h3⟩|⟨k,h3⟩
   ·rcases h4 with ⟨_,h4⟩|⟨k',_⟩
    ·left; refine ⟨k,?_⟩
     rw [zaS9] at h3 h4 ⊢; omega
    ·exact absurd k k'
   ·rcases h4 with ⟨k',_⟩|⟨_,h4⟩
    ·exact absurd k' k
    ·exact .inr ⟨k,by omega⟩
def low (a b:Amount):Prop:=a.units≤b.units∧∀ c,¬ zap3 b c→¬ zap3 a c
theorem zdt9 {r:Resource} {a b:Amount} (h:covA r b a=true):low a b:=by
 rw [zaa2] at h
 obtain ⟨h1,h2,h3⟩:=h
 have hb1:=zaf1 h1
 rcases h3 with e|⟨hb0,ha0,h3⟩
 ·subst e
  refine ⟨hb1.1,fun c _ hc=>?_⟩
  exact hc.1 rfl
 ·rcases h3 with ⟨k,h3⟩|⟨k,h3⟩
  ·have p1:=zaz6 h1 k
   have p2:=zaz6 h2 k
   refine ⟨by omega,fun c hc hc'=>hc ⟨?_,hc'.2.1,?_⟩⟩
   ·rw [zaS9] at h3; omega
   ·have h4:=hc'.2.2
    rw [← Bool.not_eq_true] at h4 ⊢
    intro h5; apply h4
    rw [zcg1] at h5 ⊢
    rw [zaS9] at h3
    omega
  ·have hk:r.kind=2:=by
    have:=(perm_iff r a).1 h2
    rw [zK0,zK1] at this
    omega
   have p2:=zbh7 h2 hk
   exact ⟨h3,fun c _ hc=>hc.1 p2.1⟩
theorem zcN3 {r:Resource} {l:List Hold} {p:Proc} {a:Amount}:zaG4 r l p a=true ↔ zK2 r l=true∧zb6 p=true∧zb3 r a=true∧(zv7 p l).length+1≤8∧(∀ h ∈ zv7 p l,¬ zap3 h.amount a)∧a.units+sumU ((zv7 p l).map (·.amount))≤r.units:=by
 constructor
 ·intro h
  obtain ⟨h1,h2,h3,h4⟩:=zaz8 h
  have hl:(zv7 p l).length+1≤8:=by
   have:=zak4 h4
   unfold setL at this
   rw [if_neg (zab7 h3),zbs0] at this
   exact this
  exact ⟨h1,h2,h3,hl,(zcp0 h1 h2 h3 hl).1 h⟩
 ·rintro ⟨h1,h2,h3,h4,h5⟩
  exact (zcp0 h1 h2 h3 h4).2 h5
theorem zcp5 {r:Resource} {l:List Hold} {p:Proc} {a:Amount} (hv:zK2 r l=true) (hp:getH l p≠Amount.zero) (hc:covA r (getH l p) a=true):zK2 r (setL l p a)=true:=by
 have hasc:=zbh9 hv
 have hv':=(zW1 r l).1 hv
 by_cases hz:a=Amount.zero
 ·unfold setL; rw [if_pos hz]; exact zbo1 hv (zbo2 p l)
 ·have hfit:zb3 r a=true:=by
   rcases (perm_iff r a).1 ((zaa2 _ _ _).1 hc).2.1 with h|h
   ·exact absurd h.2 hz
   ·exact h
  have hlow:=zdt9 hc
  have hm:=zaK5 hp
  have hlt:=zby3 hasc hp
  have hpm:=zcp2 hasc hp
  have hroom:zaG4 r l p a=true:=by
   rw [zcN3]
   refine ⟨hv,(hv'.2.2.1.each _ hm).1,hfit,by have:=hv'.2.1; omega,fun x hx hcl=>?_,?_⟩
   ·have hpr:=(CompP.perm_iff (hpm.map (·.amount))).1 hv'.2.2.2
    have:=(List.pairwise_cons.1 hpr.pair).1 x.amount (List.mem_map.2 ⟨x,hx,rfl⟩)
    exact hlow.2 _ this (by
     obtain ⟨c1,c2,c3⟩:=hcl
     exact ⟨c2,c1,by rw [zbH1]; exact c3⟩)
   ·have h1:=zby2 (hpm.map (·.amount))
    have h2:=hv'.2.2.2.sum
    rw [h1] at h2
    simp only [List.map_cons,sumU] at h2
    have:=hlow.1
    omega
  exact (zaz8 hroom).2.2.2
def del (q:Queue) (p:Proc):Queue:={ q with holds:=zv7 p q.holds,converts:=rmL q.converts p,waits:=rmL q.waits p }
theorem zaW4 {w:Wait} {l:List Wait} {p:Proc}:w ∈ rmL l p ↔ w ∈ l∧w.proc≠p:=by unfold rmL notP; simp
theorem zbi1 (l:List Wait) (p:Proc):(rmL l p).Sublist l:=List.filter_sublist
theorem SoundP.del {q:Queue} (h:SoundP q) (p:Proc):SoundP (del q p):=by
 have h1:=(zbi1 q.converts p).length_le
 have h2:=(zbi1 q.waits p).length_le
 have h3:=zaK0 p q.holds
 have h4:=h.cl; have h5:=h.wl
 refine ⟨h.res,zbo1 h.hv (zbo2 p _),by simp only [Ab.del]; omega,h.cn.sublist ((zbi1 _ _).map _),fun w hw=>?_,zca1 p h.wv,by simp only [Ab.del]; omega,fun w hw=>?_,h.gen⟩
 ·obtain ⟨a1,a2⟩:=zaW4.1 hw
  simp only [Ab.del,zae5 a2]
  exact h.cg w a1
 ·obtain ⟨a1,a2⟩:=zaW4.1 hw
  simp only [Ab.del,zae5 a2]
  exact h.wg w a1
theorem zdy2 (q:Queue) (g:Int):canQ { q with gen:=g }=canQ q:=rfl
theorem zcg6 (q:Queue):(popQ q).gen=q.gen∧(popQ q).resource=q.resource:=by unfold popQ; split <;> exact ⟨rfl,rfl⟩
theorem zcG4 (q:Queue):(advS q).gen=q.gen∧(advS q).resource=q.resource :=
 zbs8 (P:=fun x=>x.gen=q.gen∧x.resource=q.resource) (fun x _ h=>by rw [(zcg6 x).1,(zcg6 x).2]; exact h) q ⟨rfl,rfl⟩
end Ab
end Go.Proofs.YtcggeefhhegeoaaGreatDoor
