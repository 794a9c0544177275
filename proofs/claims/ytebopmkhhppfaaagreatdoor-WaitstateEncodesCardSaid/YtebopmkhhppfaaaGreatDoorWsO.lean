import Derived.Test.YtebopmkhhppfaaaGreatDoorWalk
import Derived.Test.YtebopmkhhppfaaaGreatDoorFn
import Derived.Laws.Bits64
import Derived.Laws.BitsLemmas
import Derived.KernelRfl
import Derived.Test.YtebopmkhhppfaaaGreatDoorWsI
import Derived.Test.YtebopmkhhppfaaaGreatDoorTabB
namespace Go.Proofs.YtebopmkhhppfaaaGreatDoor
namespace Ab
set_option linter.unusedVariables false
set_option linter.unusedSimpArgs false
def zy9 (l:List Int):Prop:=∀ x ∈ l,0≤x∧x < 256
theorem zy9.drop {l:List Int} (h:zy9 l) (n:Nat):zy9 (l.drop n):=fun x hx=>h x (List.mem_of_mem_drop hx)
theorem zy9.getD {l:List Int} (h:zy9 l) (i:Nat):0≤l.getD i 0∧l.getD i 0 < 256:=by
 by_cases hi:i < l.length
 ·rw [List.getD_eq_getElem?_getD,List.getElem?_eq_getElem hi]
  exact h _ (List.getElem_mem hi)
 ·rw [List.getD_eq_getElem?_getD,List.getElem?_eq_none (by omega)]
  simp
theorem zaO7 {G X:Type} {b1 b2:G→Option (G⊕X)} (I:G→Prop) (h:∀ g,I g→b1 g=b2 g∧∀ g',b1 g=some (.inl g')→I g'):∀ n g,I g→iter b1 n g=iter b2 n g
 | 0,_,_=>rfl
 | n+1,g,hg=>by
  obtain ⟨h1,h2⟩:=h g hg
  simp only [iter]
  rw [← h1]
  cases hb:b1 g with
  | none=>rfl
  | some y =>
   cases y with
   | inl g'=>exact zaO7 I h n g' (h2 g' hb)
   | inr x=>rfl
theorem zbF4 {G X:Type} {b1 b2:G→Option (G⊕X)} (I:G→Prop) (h:∀ g,I g→b1 g=b2 g∧∀ g',b1 g=some (.inl g')→I g') {g:G} (hg:I g):zb4 b1 g=zb4 b2 g:=by
 apply Option.ext
 intro x
 constructor
 ·intro hx
  obtain ⟨n,hn⟩:=zN7.1 hx
  exact zN7.2 ⟨n,by rw [← zaO7 I h n g hg]; exact hn⟩
 ·intro hx
  obtain ⟨n,hn⟩:=zN7.1 hx
  exact zN7.2 ⟨n,by rw [zaO7 I h n g hg]; exact hn⟩
theorem zay3 {G X H Y:Type} {b1:G→Option (G⊕X)} {b2:H→Option (H⊕Y)} (I:G→H→Prop) (μ:G→Nat) (Post:X→Y→Prop)
  (h:∀ g k,I g k→(∃ g' k',b1 g=some (.inl g')∧b2 k=some (.inl k')∧I g' k'∧μ g' < μ g)∨∃ x y,b1 g=some (.inr x)∧b2 k=some (.inr y)∧Post x y) :
  ∀ g k,I g k→∃ x y,zb4 b1 g=some x∧zb4 b2 k=some y∧Post x y:=by
 have key:∀ n g k,μ g=n→I g k→∃ x y,zb4 b1 g=some x∧zb4 b2 k=some y∧Post x y:=by
  intro n
  induction n using Nat.strongRecOn with
  | _ n ih =>
   intro g k hn hg
   rw [zd2,zd2 b2]
   rcases h g k hg with ⟨g',k',h1,h2,h3,h4⟩|⟨x,y,h1,h2,h3⟩
   ·rw [h1,h2]; exact ih (μ g') (hn ▸ h4) g' k' rfl h3
   ·rw [h1,h2]; exact ⟨x,y,rfl,rfl,h3⟩
 exact fun g k hg=>key _ g k rfl hg
theorem zbJ6 (c:Int) (h0:0≤c) (h1:c < 256):(zx2 .and .u8 c 128=0) ↔ c < 128:=by
 have k:(List.range 256).all (fun n=>decide ((zx2 .and .u8 (n:Int) 128=0) ↔ (n:Int) < 128))=true:=by kernel_rfl
 obtain ⟨n,rfl⟩:=Int.eq_ofNat_of_zero_le h0
 have:=List.all_eq_true.1 k n (List.mem_range.2 (by omega))
 simpa using this
theorem zbc0 {a:List Int} (hb:zy9 a) (g:Int×Int) (h0:0≤g.2) (h1:g.2≤10):zm4 a g=zac8 a g:=by
 obtain ⟨v,i⟩:=g
 simp only at h0 h1
 unfold zm4 zac8
 simp only [decide_eq_true_eq]
 by_cases c1:i < 10
 ·rw [if_pos c1,if_pos c1]
  by_cases c2:(a.length:Int)≤i
  ·rw [if_pos c2,if_pos c2]
  ·have hi:0≤i∧i < (a.length:Int):=by omega
   rw [if_neg c2,if_neg c2,gdp hi,gdp hi]
   obtain ⟨hc0,hc1⟩:=hb.getD i.toNat
   have hw:IntKind.u64.wrap (IntKind.i64.wrap (7 * i))=IntKind.i64.wrap (7 * i):=by
    rw [zc4 (by omega) (by omega),IntKind.wrap_u64]; omega
   have hw0:0≤IntKind.i64.wrap (7 * i):=by rw [zc4 (by omega) (by omega)]; omega
   have ha:=zbJ6 _ hc0 hc1
   rw [hw,gdp hw0,gdp hw0]
   generalize a.getD i.toNat 0=c at hc0 hc1 ha ⊢
   by_cases c3:i=9∧1 < c
   ·simp [c3.1,c3.2]
   ·have e3:(decide (i=9)&&decide (1 < c))=false:=by
     rw [Bool.eq_false_iff]; intro h; simp at h; exact c3 h
    rw [e3]
    by_cases c4:c < 128
    ·have c5:=ha.2 c4
     simp only [c4,c5,decide_true,Bool.not_true,Bool.false_eq_true,if_false,if_true,Bool.false_or]
    ·have c5:¬ zx2 .and .u8 c 128=0:=fun e=>c4 (ha.1 e)
     have c6:¬ c=0:=by omega
     simp only [c4,c5,c6,decide_false,Bool.not_false,Bool.false_and,Bool.or_false,Bool.false_eq_true,if_false,if_true]
 ·rw [if_neg c1,if_neg c1]
theorem zbv5 {a:List Int} {g g':Int×Int} (h0:0≤g.2) (h1:g.2≤10) (h:zm4 a g=some (.inl g')):g.2 < 10∧g.2 < a.length∧g'.2=g.2+1∧0≤g'.1∧g'.1 < 18446744073709551616:=by
 obtain ⟨v,i⟩:=g
 simp only at h0 h1
 unfold zm4 at h
 simp only [decide_eq_true_eq] at h
 split at h
 ·rename_i c1
  split at h
  ·cases h
  ·rename_i c2
   rw [gdp (by omega)] at h
   split at h
   ·cases h
   ·rw [gdp (by rw [zc4 (by omega) (by omega)]; omega)] at h
    split at h
    ·cases h
     refine ⟨c1,by omega,?_,?_⟩
     ·simp only; rw [zc4 (by omega) (by omega)]
     ·simp only [zx2]; rw [IntKind.wrap_u64]; omega
    ·split at h <;> cases h
 ·cases h
theorem zbA3 {a:List Int} (hb:zy9 a):zk5 a=zw1 a:=by
 unfold zk5 zw1
 rw [zbF4 (fun g=>0≤g.2∧g.2≤10) (fun g hg=>⟨zbc0 hb g hg.1 hg.2,fun g' h=>?_⟩) (by simp)]
 ·rfl
 ·obtain ⟨h1,_,h2,_⟩:=zbv5 hg.1 hg.2 h
  omega
structure UintOk (a:List Int) (r:Int×Int×Int):Prop where
 ok:r.2.2=0→1≤r.2.1∧r.2.1≤a.length∧r.2.1≤10
 no:r.2.2≠0→r.1=0∧r.2.1=0
 v0:0≤r.1
 v1:r.1 < 18446744073709551616
 n0:0≤r.2.1
 n1:r.2.1≤a.length
 e:r.2.2=0∨r.2.2=5∨r.2.2=6
theorem zaY0 {a:List Int} (hb:zy9 a):∃ r,zk5 a=some r∧UintOk a r:=by
 have hl:∃ x,zb4 (zm4 a) (0,0)=some x∧(match x with|.inl _=>True|.inr r=>UintOk a r):=by
  refine zaQ9 (fun g=>(0≤g.2∧g.2≤10)∧0≤g.1∧g.1 < 18446744073709551616) (fun g=>(10 - g.2).toNat) _ (fun g hg=>?_) (0,0) (by simp)
  obtain ⟨⟨h0,h1⟩,h2,h3⟩:=hg
  cases hx:zm4 a g with
  | none =>
   exfalso
   obtain ⟨v,i⟩:=g
   simp only at h0 h1
   unfold zm4 at hx
   simp only [decide_eq_true_eq] at hx
   split at hx
   ·split at hx
    ·cases hx
    ·rw [gdp (by omega)] at hx
     split at hx
     ·cases hx
     ·rw [gdp (by rw [zc4 (by omega) (by omega)]; omega)] at hx
      split at hx
      ·cases hx
      ·split at hx <;> cases hx
   ·cases hx
  | some y =>
   cases y with
   | inl g' =>
    obtain ⟨k1,k2,k3,k4,k5⟩:=zbv5 h0 h1 hx
    exact .inl ⟨g',rfl,⟨by omega,k4,k5⟩,by omega⟩
   | inr x =>
    refine .inr ⟨x,rfl,?_⟩
    obtain ⟨v,i⟩:=g
    simp only at h0 h1 h2 h3
    have bad:∀ e,e=5∨e=6→UintOk a (0,0,e):=fun e he=>⟨fun h=>by simp only at h; omega,fun _=>⟨rfl,rfl⟩,Int.le_refl _,by simp,Int.le_refl _,by simp,.inr he⟩
    unfold zm4 at hx
    simp only [decide_eq_true_eq] at hx
    split at hx
    ·split at hx
     ·cases hx; exact bad 5 (.inl rfl)
     ·rename_i c2
      rw [gdp (by omega)] at hx
      split at hx
      ·cases hx; exact bad 6 (.inr rfl)
      ·rw [gdp (by rw [zc4 (by omega) (by omega)]; omega)] at hx
       split at hx
       ·cases hx
       ·split at hx
        ·cases hx; exact bad 6 (.inr rfl)
        ·cases hx
         have hw:IntKind.i64.wrap (i+1)=i+1:=zc4 (by omega) (by omega)
         refine ⟨fun _=>?_,fun h=>absurd rfl h,?_,?_,?_,?_,.inl rfl⟩
         ·simp only [hw]; omega
         ·simp only [zx2]; rw [IntKind.wrap_u64]; omega
         ·simp only [zx2]; rw [IntKind.wrap_u64]; omega
         ·simp only [hw]; omega
         ·simp only [hw]; omega
    ·cases hx; trivial
 obtain ⟨x,h1,h2⟩:=hl
 unfold zk5
 rw [h1]
 cases x with
 | inl z=>exact ⟨(0,0,6),rfl,fun h=>by simp at h,fun _=>⟨rfl,rfl⟩,Int.le_refl _,by simp,Int.le_refl _,by simp,.inr (.inr rfl)⟩
 | inr r=>exact ⟨r,rfl,h2⟩
theorem zcB0 {a:List Int} (hb:zy9 a):zo4 a=zC4 a:=by
 unfold zo4 zC4
 rw [zbA3 hb]
structure TextOk (a:List Int) (r:ByteArray×Int×Int):Prop where
 n0:0≤r.2.1
 n1:r.2.1≤a.length
 no:r.2.2≠0→r.1=⟨#[]⟩
theorem zbS1 {a:List Int} (hb:zy9 a) (hl:a.length≤9223372036854775807):∃ r,zo4 a=some r∧TextOk a r:=by
 obtain ⟨⟨v,n,e⟩,h1,h2⟩:=zaY0 hb
 have k:=h2.ok; have v0:=h2.v0; have n0:=h2.n0; have n1:=h2.n1
 simp only at k v0 n0 n1
 unfold zo4
 rw [h1,Option.bind_some]
 simp only [Bool.not_eq_true',decide_eq_false_iff_not,decide_eq_true_eq]
 by_cases c1:e=0
 ·rw [if_neg (by simpa using c1)]
  by_cases c2:1024 < v
  ·rw [if_pos c2]; exact ⟨_,rfl,Int.le_refl _,by simp,fun _=>rfl⟩
  ·rw [if_neg c2]
   have w1:IntKind.i64.wrap v=v:=zc4 (by omega) (by omega)
   have w2:IntKind.i64.wrap ((a.length:Int) - n)=a.length - n:=zc4 (by omega) (by omega)
   have w3:IntKind.i64.wrap (n+v)=n+v:=zc4 (by omega) (by omega)
   rw [w1,w2,w3]
   by_cases c3:(a.length:Int) - n < v
   ·rw [if_pos c3]; exact ⟨_,rfl,Int.le_refl _,by simp,fun _=>rfl⟩
   ·rw [if_neg c3,gdp (by omega)]
    exact ⟨_,rfl,by simp only; omega,by simp only; omega,fun h=>absurd rfl h⟩
 ·rw [if_pos (by simpa using c1)]
  exact ⟨_,rfl,Int.le_refl _,by simp,fun _=>rfl⟩
end Ab
end Go.Proofs.YtebopmkhhppfaaaGreatDoor
namespace Go.Proofs.YtebopmkhhppfaaaGreatDoor
namespace Ab
set_option linter.unusedVariables false
set_option linter.unusedSimpArgs false
structure Sim (b:List Int) (d:decoder) (r:ref16Reader):Prop where
 rb:r.b=b
 e:d.reader.err=r.e
 a0:0≤r.at_
 a1:r.at_≤b.length
 rest:r.e=0→d.reader.rest=b.drop r.at_.toNat
def Rd (b:List Int) {α:Type} (f:Option (α×decoder)) (g:Option (α×ref16Reader)) (P:α→Prop):Prop:=∃ v d r,f=some (v,d)∧g=some (v,r)∧Sim b d r∧P v
structure Src (b:List Int):Prop where
 bytes:zy9 b
 len:b.length≤9223372036854775807
theorem zbd3 {b:List Int} {at_ n:Int} (h0:0≤at_) (h1:0≤n) (h2:at_≤b.length) (hl:b.length≤9223372036854775807) (h3:n≤(b.drop at_.toNat).length) :
  IntKind.i64.wrap (at_+n)=at_+n∧at_+n≤b.length∧(b.drop at_.toNat).drop n.toNat=b.drop (at_+n).toNat:=by
 have h4:(b.drop at_.toNat).length=b.length - at_.toNat:=List.length_drop
 refine ⟨zc4 (by omega) (by omega),by omega,?_⟩
 rw [List.drop_drop]; congr 1; omega
theorem zbn7 {b:List Int} (hb:Src b) {d:decoder} {r:ref16Reader} (h:Sim b d r) (lim over:Int) (h0:0≤lim) (h1:lim < 4611686018427387904) (ho:over≠0) :
  Rd b (zc7 lim over d) (zi3 lim over r) (fun v=>0≤v∧v≤lim):=by
 obtain ⟨hbb,hbl⟩:=hb
 have h':=h
 obtain ⟨e1,e2,e3,e4,e5⟩:=h
 unfold zc7 zi3
 rw [e2]
 by_cases he:r.e=0
 ·have hr:=e5 he
  rw [if_neg (by simp [he]),if_neg (by simp [he]),e1,gdp (by omega),hr]
  obtain ⟨⟨v,n,e⟩,hu,ok⟩:=zaY0 (hbb.drop r.at_.toNat)
  rw [← zbA3 (hbb.drop r.at_.toNat),hu]
  have k1:=ok.v0; have k2:=ok.v1; have k3:=ok.n0; have k4:=ok.n1
  simp only at k1 k2 k3 k4
  obtain ⟨w1,w2,w3⟩:=zbd3 e3 k3 e4 hbl k4
  have hw:IntKind.u64.wrap lim=lim:=by rw [IntKind.wrap_u64]; omega
  simp only [Option.bind_some]
  by_cases c1:e=0
  ·subst c1
   by_cases c2:lim < v
   ·rw [if_pos (by simp [hw,c2]),if_neg (by simp),if_pos (by simp [hw,c2])]
    unfold zi2
    rw [if_pos (by simp [ho])]
    exact ⟨0,_,_,rfl,rfl,⟨rfl,rfl,by simp only [w1]; omega,by simp only [w1]; exact w2,fun hh=>absurd hh ho⟩,Int.le_refl _,h0⟩
   ·rw [if_neg (by simp [hw,c2]),if_neg (by simp),if_neg (by simp [hw,c2])]
    unfold zi2
    have hvw:IntKind.i64.wrap v=v:=zc4 (by omega) (by omega)
    rw [if_neg (by simp),hr,gdp (by simp only; omega)]
    simp only [hvw]
    exact ⟨v,_,_,rfl,rfl,⟨rfl,e2,by simp only [w1]; omega,by simp only [w1]; exact w2,fun _=>by simp only [w1]; exact w3⟩,k1,by omega⟩
  ·rw [if_neg (by simp [c1]),if_pos (by simp [c1])]
   unfold zi2
   rw [if_pos (by simp [c1])]
   exact ⟨0,_,_,rfl,rfl,⟨rfl,rfl,e3,e4,fun hh=>absurd hh c1⟩,Int.le_refl _,h0⟩
 ·rw [if_pos (by simp [he]),if_pos (by simp [he])]
  exact ⟨0,_,_,rfl,rfl,h',Int.le_refl _,h0⟩
theorem Rd.bind {b:List Int} {α β:Type} {f:Option (α×decoder)} {g:Option (α×ref16Reader)} {P:α→Prop} {Q:β→Prop} {F:α×decoder→Option (β×decoder)} {G:α×ref16Reader→Option (β×ref16Reader)}
  (h:Rd b f g P) (k:∀ v d r,Sim b d r→P v→Rd b (F (v,d)) (G (v,r)) Q):Rd b (f.bind F) (g.bind G) Q:=by
 obtain ⟨v,d,r,h1,h2,h3,h4⟩:=h
 rw [h1,h2]
 exact k v d r h3 h4
theorem Rd.ret {b:List Int} {α:Type} {P:α→Prop} {v:α} {d:decoder} {r:ref16Reader} (h:Sim b d r) (hp:P v):Rd b (some (v,d)) (some (v,r)) P:=⟨v,d,r,rfl,rfl,h,hp⟩
theorem zap0 {b:List Int} (hb:Src b) {d:decoder} {r:ref16Reader} (h:Sim b d r) (lim:Int) (h0:0≤lim) (h1:lim < 4611686018427387904) :
  Rd b (zb9 lim d) (ze8 lim r) (fun v=>0≤v∧v≤lim):=by
 unfold zb9 ze8
 exact (zbn7 hb h lim 4 h0 h1 (by decide)).bind fun v d r hs hp=>.ret hs hp
theorem zQ7 {b:List Int} (hb:Src b) {d:decoder} {r:ref16Reader} (h:Sim b d r) :
  Rd b (zb1 d) (zc5 r) (fun v=>0≤v∧v≤1073741824):=by
 unfold zb1 zc5
 exact (zbn7 hb h 1073741824 16 (by decide) (by decide) (by decide)).bind fun v d r hs hp=>.ret hs hp
theorem zbF5 {b:List Int} (hb:Src b) {d:decoder} {r:ref16Reader} (h:Sim b d r):Rd b (zd6 d) (zi5 r) (fun _=>True):=by
 obtain ⟨hbb,hbl⟩:=hb
 have h':=h
 obtain ⟨e1,e2,e3,e4,e5⟩:=h
 unfold zd6 zi5
 rw [e2]
 by_cases he:r.e=0
 ·have hr:=e5 he
  rw [if_neg (by simp [he]),if_neg (by simp [he]),e1,gdp (by omega),hr]
  obtain ⟨⟨v,n,e⟩,hu,ok⟩:=zbS1 (hbb.drop r.at_.toNat) (by rw [List.length_drop]; omega)
  rw [← zcB0 (hbb.drop r.at_.toNat),hu]
  have k3:=ok.n0; have k4:=ok.n1; have k5:=ok.no
  simp only at k3 k4 k5
  obtain ⟨w1,w2,w3⟩:=zbd3 e3 k3 e4 hbl k4
  simp only [Option.bind_some]
  by_cases c1:e=0
  ·subst c1
   rw [if_neg (by simp),if_neg (by simp),gdp (by omega)]
   exact ⟨v,_,_,rfl,rfl,⟨rfl,e2,by simp only [w1]; omega,by simp only [w1]; exact w2,fun _=>by simp only [w1]; exact w3⟩,trivial⟩
  ·rw [if_pos (by simp [c1]),if_pos (by simp [c1])]
   exact ⟨_,_,_,rfl,rfl,⟨rfl,rfl,e3,e4,fun hh=>absurd hh c1⟩,trivial⟩
 ·rw [if_pos (by simp [he]),if_pos (by simp [he])]
  exact ⟨_,_,_,rfl,rfl,h',trivial⟩
theorem zbA4 (p:Proc):za9 p=ze3 p:=by
 unfold za9 ze3 zu3
 rw [Bool.eq_iff_iff]
 simp only [Bool.and_eq_true,decide_eq_true_eq]
 omega
structure ProcOk (a:List Int) (r:Proc×Int×Int):Prop where
 n0:0≤r.2.1
 n1:r.2.1≤a.length
def zay4 (x:Int):Int:=if 1073741824 < x then 1073741824 else x
theorem zbS2 {a:List Int} (hb:zy9 a) (hl:a.length≤9223372036854775807):∃ r,zr2 a=some r∧zC5 a=some r∧ProcOk a r:=by
 have turn:∀ (at_ i:Int) (x y:Arr Int 3),0≤at_→at_≤a.length→0≤i→i < 3 →
   (∃ e,zl4 a (at_,i,x)=some (.inr (.inr (Proc.zero,0,e)))∧zr6 a (at_,i,y)=some (.inr (.inr (Proc.zero,0,e)))) ∨
   ∃ v n:Int,0≤v∧v < 18446744073709551616∧0≤n∧at_+n≤a.length ∧
    zl4 a (at_,i,x)=some (.inl (at_+n,i+1,Arr.put x i.toNat (zay4 v)))∧zr6 a (at_,i,y)=some (.inl (at_+n,i+1,Arr.put y i.toNat v)):=by
  intro at_ i x y h0 h1 h2 h3
  obtain ⟨⟨v,n,e⟩,hu,ok⟩:=zaY0 (hb.drop at_.toNat)
  have k1:=ok.v0; have k2:=ok.v1; have k3:=ok.n0; have k4:=ok.n1
  simp only at k1 k2 k3 k4
  obtain ⟨w1,w2,w3⟩:=zbd3 h0 k3 h1 hl k4
  have wi:IntKind.i64.wrap (i+1)=i+1:=zc4 (by omega) (by omega)
  have hg:0≤at_∧at_≤(a.length:Int)∧(a.length:Int)≤(a.length:Int):=by omega
  unfold zl4 zr6
  simp only [h3,decide_true,if_true]
  rw [gdp hg,gdp hg,← zbA3 (hb.drop at_.toNat),hu]
  simp only [Option.bind_some]
  by_cases c1:e=0
  ·subst c1
   right
   refine ⟨v,n,k1,k2,k3,w2,?_,?_⟩
   ·rw [if_neg (by simp),gdp (by simp [h2]),w1,wi]
    have:IntKind.i64.wrap (if 1073741824 < v then 1073741824 else v)=zay4 v:=by
     unfold zay4
     split
     ·exact zc4 (by omega) (by omega)
     ·exact zc4 (by omega) (by omega)
    rw [this]
   ·rw [if_neg (by simp),gdp (by simp [h2]),w1,wi]
  ·left
   refine ⟨e,?_,?_⟩
   ·rw [if_pos (by simp [c1])]
   ·rw [if_pos (by simp [c1])]
 have bad:∀ e,ProcOk a (Proc.zero,0,e):=fun e=>⟨Int.le_refl _,by simp⟩
 unfold zr2 zC5
 rw [zd2,zd2 (zr6 a)]
 rcases turn 0 0 (Arr.rep 3 0) (Arr.rep 3 0) (Int.le_refl _) (by omega) (Int.le_refl _) (by decide) with ⟨e,t1,t2⟩|⟨v0,n0,a1,a2,a3,a4,t1,t2⟩
 ·rw [t1,t2]; exact ⟨_,rfl,rfl,bad e⟩
 rw [t1,t2]
 simp only
 rw [zd2,zd2 (zr6 a)]
 rcases turn (0+n0) (0+1) (Arr.put (Arr.rep 3 0) (0:Int).toNat (zay4 v0)) (Arr.put (Arr.rep 3 0) (0:Int).toNat v0) (by omega) a4 (by decide) (by decide) with ⟨e,t1,t2⟩|⟨v1,n1,b1,b2,b3,b4,t1,t2⟩
 ·rw [t1,t2]; exact ⟨_,rfl,rfl,bad e⟩
 rw [t1,t2]
 simp only
 rw [zd2,zd2 (zr6 a)]
 rcases turn (0+n0+n1) (0+1+1) (Arr.put (Arr.put (Arr.rep 3 0) (0:Int).toNat (zay4 v0)) (0+1:Int).toNat (zay4 v1)) (Arr.put (Arr.put (Arr.rep 3 0) (0:Int).toNat v0) (0+1:Int).toNat v1) (by omega) b4 (by decide) (by decide) with ⟨e,t1,t2⟩|⟨v2,n2,c1,c2,c3,c4,t1,t2⟩
 ·rw [t1,t2]; exact ⟨_,rfl,rfl,bad e⟩
 rw [t1,t2]
 simp only
 rw [zd2,zd2 (zr6 a)]
 have z1:∀ x,zl4 a (0+n0+n1+n2,0+1+1+1,x)=some (.inr (.inl (0+n0+n1+n2,x))):=fun x=>by unfold zl4; simp
 have z2:∀ x,zr6 a (0+n0+n1+n2,0+1+1+1,x)=some (.inr (.inl (0+n0+n1+n2,x))):=fun x=>by unfold zr6; simp
 rw [z1,z2]
 simp only [Option.bind_some]
 have g1:∀ (x y z:Int),Arr.get (Arr.put (Arr.put (Arr.put (Arr.rep 3 0) (0:Int).toNat x) (0+1:Int).toNat y) (0+1+1:Int).toNat z) 0 0=x∧Arr.get (Arr.put (Arr.put (Arr.put (Arr.rep 3 0) (0:Int).toNat x) (0+1:Int).toNat y) (0+1+1:Int).toNat z) 1 0=y ∧
   Arr.get (Arr.put (Arr.put (Arr.put (Arr.rep 3 0) (0:Int).toNat x) (0+1:Int).toNat y) (0+1+1:Int).toNat z) 2 0=z:=fun x y z=>⟨rfl,rfl,rfl⟩
 obtain ⟨q1,q2,q3⟩:=g1 (zay4 v0) (zay4 v1) (zay4 v2)
 obtain ⟨p1,p2,p3⟩:=g1 v0 v1 v2
 unfold zU9 zac9
 simp only [q1,q2,q3,p1,p2,p3,zbA4]
 by_cases big:1073741824 < v0∨1073741824 < v1∨1073741824 < v2
 ·rw [if_pos (by unfold ze3 zay4; rcases big with h|h|h <;> simp [h] <;> intros <;> omega)]
  refine ⟨_,rfl,?_,bad 2⟩
  rw [if_pos (by rcases big with h|h|h <;> simp [h])]
 ·have s0:zay4 v0=v0:=if_neg (by omega)
  have s1:zay4 v1=v1:=if_neg (by omega)
  have s2:zay4 v2=v2:=if_neg (by omega)
  rw [s0,s1,s2,if_neg (show ¬ ((decide (1073741824 < v0)||decide (1073741824 < v1))||decide (1073741824 < v2))=true by simp; omega),zc4 (x:=v0) (by omega) (by omega),zc4 (x:=v1) (by omega) (by omega),zc4 (x:=v2) (by omega) (by omega)]
  by_cases hv:ze3 ⟨v0,v1,v2⟩=true
  ·rw [if_neg (by simp [hv])]
   exact ⟨_,rfl,rfl,by simp only; omega,by simp only; omega⟩
  ·rw [if_pos (by simpa using hv)]
   exact ⟨_,rfl,rfl,bad 2⟩
theorem zaT5 {b:List Int} (hb:Src b) {d:decoder} {r:ref16Reader} (h:Sim b d r):Rd b (zd0 d) (zg3 r) (fun _=>True):=by
 obtain ⟨hbb,hbl⟩:=hb
 have h':=h
 obtain ⟨e1,e2,e3,e4,e5⟩:=h
 unfold zd0 zg3
 rw [e2]
 by_cases he:r.e=0
 ·have hr:=e5 he
  rw [if_neg (by simp [he]),if_neg (by simp [he]),e1,gdp (by omega),hr]
  obtain ⟨⟨v,n,e⟩,hu,hu2,ok⟩:=zbS2 (hbb.drop r.at_.toNat) (by rw [List.length_drop]; omega)
  rw [hu,hu2]
  have k3:=ok.n0; have k4:=ok.n1
  simp only at k3 k4
  obtain ⟨w1,w2,w3⟩:=zbd3 e3 k3 e4 hbl k4
  simp only [Option.bind_some]
  by_cases c1:e=0
  ·subst c1
   rw [if_neg (by simp),if_neg (by simp),gdp (by omega)]
   exact ⟨v,_,_,rfl,rfl,⟨rfl,e2,by simp only [w1]; omega,by simp only [w1]; exact w2,fun _=>by simp only [w1]; exact w3⟩,trivial⟩
  ·rw [if_pos (by simp [c1]),if_pos (by simp [c1])]
   exact ⟨_,_,_,rfl,rfl,⟨rfl,rfl,e3,e4,fun hh=>absurd hh c1⟩,trivial⟩
 ·rw [if_pos (by simp [he]),if_pos (by simp [he])]
  exact ⟨_,_,_,rfl,rfl,h',trivial⟩
theorem zaB1 {b:List Int} (hb:Src b) {d:decoder} {r:ref16Reader} (h:Sim b d r):Rd b (zc1 d) (zf2 r) (fun _=>True):=by
 unfold zc1 zf2
 exact (zQ7 hb h).bind fun v d r hs _=>(zQ7 hb hs).bind fun v2 d r hs _=>.ret hs trivial
end Ab
end Go.Proofs.YtebopmkhhppfaaaGreatDoor
namespace Go.Proofs.YtebopmkhhppfaaaGreatDoor
namespace Ab
set_option linter.unusedVariables false
set_option linter.unusedSimpArgs false
theorem zbS3 {b:List Int} (hb:Src b) {N:Int} (h0:0≤N) (h8:N≤8) (v:Int×ref16Reader) (hv:v.1=N) {d:decoder} {r:ref16Reader} (hs:Sim b d r) (q:Queue) (hq:q.holds=[]) (hi:q.converts=[]∧q.waits=[]) :
  ∃ d' r' q',zb4 zf5 (N,d,q)=some (d',q')∧zb4 (zn7 v) (0,r,q)=some (r',q')∧Sim b d' r'∧q'.holds.length≤8∧q'.converts=[]∧q'.waits=[]:=by
 have key:=zay3 (b1:=zf5) (b2:=zn7 v)
  (fun g k=>g.2.2=k.2.2∧Sim b g.2.1 k.2.1∧g.1=N - k.1∧0≤k.1∧k.1≤N∧(g.2.2.holds.length:Int)=k.1∧g.2.2.converts=[]∧g.2.2.waits=[]) (fun g=>g.1.toNat)
  (fun x y=>x.2=y.2∧Sim b x.1 y.1∧x.2.holds.length≤8∧x.2.converts=[]∧x.2.waits=[]) (by
  rintro ⟨n,d,q⟩ ⟨i,r,q'⟩ ⟨c1,hs,c3,c4,c5,c6,c7⟩
  simp only at c1 hs c3 c4 c5 c6 c7
  subst c1
  have he:=hs.e
  by_cases c:i < N∧r.e=0
  ·left
   obtain ⟨ca,cb⟩:=c
   obtain ⟨p,d1,r1,h1,h2,s1,_⟩:=zaT5 hb hs
   obtain ⟨a,d2,r2,h3,h4,s2,_⟩:=zaB1 hb s1
   have w1:IntKind.i64.wrap (n - 1)=n - 1:=zc4 (by omega) (by omega)
   have w2:IntKind.i64.wrap (i+1)=i+1:=zc4 (by omega) (by omega)
   have hW:zf5 (n,d,q)=some (.inl (n - 1,d2,⟨⟨q.resource.name,q.resource.kind,q.resource.units,q.resource.home⟩,q.holds++[⟨p,a⟩],q.converts,q.waits,q.gen⟩)):=by
    unfold zf5
    rw [if_pos (by simp [he,cb]; omega)]
    simp only [h1,h3,Option.bind_some,w1]
    rw [gdp (by omega)]
   have hR:zn7 v (i,r,q)=some (.inl (i+1,r2,⟨⟨q.resource.name,q.resource.kind,q.resource.units,q.resource.home⟩,q.holds++[⟨p,a⟩],q.converts,q.waits,q.gen⟩)):=by
    unfold zn7
    rw [if_pos (by simp [hv,cb]; omega)]
    simp only [h2,h4,Option.bind_some,w2]
    rw [gdp (by omega)]
   exact ⟨_,_,hW,hR,⟨rfl,s2,by simp only; omega,by simp only; omega,by simp only; omega,by simp; omega,c7⟩,by simp only; omega⟩
  ·right
   refine ⟨(d,q),(r,q),?_,?_,rfl,hs,by simp only; omega,c7⟩
   ·unfold zf5
    rw [if_neg (by simp [he]; intro _; have:=mt (And.intro (show i < N by omega)) c; exact this)]
   ·unfold zn7
    rw [if_neg (by simp [hv]; intro h; exact fun e=>c ⟨h,e⟩)])
 obtain ⟨⟨d',q'⟩,⟨r',q''⟩,h1,h2,h3,h4,h5⟩:=key (N,d,q) (0,r,q) ⟨rfl,hs,by simp,Int.le_refl _,h0,by simp only; rw [hq]; rfl,hi⟩
 simp only at h3 h4 h5
 subst h3
 exact ⟨d',r',q',h1,h2,h4,h5⟩
theorem zbA5 {b:List Int} (hb:Src b) {N:Int} (h0:0≤N) (h8:N≤8) (v:Int×ref16Reader) (hv:v.1=N) {d:decoder} {r:ref16Reader} (hs:Sim b d r) (q:Queue) (hq:q.converts=[]) (hi:q.holds.length≤8∧q.waits=[]) :
  ∃ d' r' q',zb4 zf4 (N,d,q)=some (d',q')∧zb4 (zn6 v) (0,r,q)=some (r',q')∧Sim b d' r'∧q'.converts.length≤8∧q'.holds.length≤8∧q'.waits=[]:=by
 have key:=zay3 (b1:=zf4) (b2:=zn6 v)
  (fun g k=>g.2.2=k.2.2∧Sim b g.2.1 k.2.1∧g.1=N - k.1∧0≤k.1∧k.1≤N∧(g.2.2.converts.length:Int)=k.1∧g.2.2.holds.length≤8∧g.2.2.waits=[]) (fun g=>g.1.toNat)
  (fun x y=>x.2=y.2∧Sim b x.1 y.1∧x.2.converts.length≤8∧x.2.holds.length≤8∧x.2.waits=[]) (by
  rintro ⟨n,d,q⟩ ⟨i,r,q'⟩ ⟨c1,hs,c3,c4,c5,c6,c7⟩
  simp only at c1 hs c3 c4 c5 c6 c7
  subst c1
  have he:=hs.e
  by_cases c:i < N∧r.e=0
  ·left
   obtain ⟨ca,cb⟩:=c
   obtain ⟨p,d1,r1,h1,h2,s1,_⟩:=zaT5 hb hs
   obtain ⟨a,d2,r2,h3,h4,s2,_⟩:=zaB1 hb s1
   have w1:IntKind.i64.wrap (n - 1)=n - 1:=zc4 (by omega) (by omega)
   have w2:IntKind.i64.wrap (i+1)=i+1:=zc4 (by omega) (by omega)
   have hW:zf4 (n,d,q)=some (.inl (n - 1,d2,⟨⟨q.resource.name,q.resource.kind,q.resource.units,q.resource.home⟩,q.holds,q.converts++[{ Wait.zero with proc:=p,amount:=a }],q.waits,q.gen⟩)):=by
    unfold zf4
    rw [if_pos (by simp [he,cb]; omega)]
    simp only [h1,h3,Option.bind_some,w1]
    rw [gdp (by omega)]
   have hR:zn6 v (i,r,q)=some (.inl (i+1,r2,⟨⟨q.resource.name,q.resource.kind,q.resource.units,q.resource.home⟩,q.holds,q.converts++[{ Wait.zero with proc:=p,amount:=a }],q.waits,q.gen⟩)):=by
    unfold zn6
    rw [if_pos (by simp [hv,cb]; omega)]
    simp only [h2,h4,Option.bind_some,w2]
    rw [gdp (by omega)]
   exact ⟨_,_,hW,hR,⟨rfl,s2,by simp only; omega,by simp only; omega,by simp only; omega,by simp; omega,c7⟩,by simp only; omega⟩
  ·right
   refine ⟨(d,q),(r,q),?_,?_,rfl,hs,by simp only; omega,c7⟩
   ·unfold zf4
    rw [if_neg (by simp [he]; intro _; have:=mt (And.intro (show i < N by omega)) c; exact this)]
   ·unfold zn6
    rw [if_neg (by simp [hv]; intro h; exact fun e=>c ⟨h,e⟩)])
 obtain ⟨⟨d',q'⟩,⟨r',q''⟩,h1,h2,h3,h4,h5⟩:=key (N,d,q) (0,r,q) ⟨rfl,hs,by simp,Int.le_refl _,h0,by simp only; rw [hq]; rfl,hi⟩
 simp only at h3 h4 h5
 subst h3
 exact ⟨d',r',q',h1,h2,h4,h5⟩
theorem zbS4 {b:List Int} (hb:Src b) {N:Int} (h0:0≤N) (h8:N≤8) (v:Int×ref16Reader) (hv:v.1=N) {d:decoder} {r:ref16Reader} (hs:Sim b d r) (q:Queue) (hq:q.waits=[]) (hi:q.holds.length≤8∧q.converts.length≤8) :
  ∃ d' r' q',zb4 zf3 (N,d,q)=some (d',q')∧zb4 (zn5 v) (0,r,q)=some (r',q')∧Sim b d' r'∧q'.waits.length≤8∧q'.holds.length≤8∧q'.converts.length≤8:=by
 have key:=zay3 (b1:=zf3) (b2:=zn5 v)
  (fun g k=>g.2.2=k.2.2∧Sim b g.2.1 k.2.1∧g.1=N - k.1∧0≤k.1∧k.1≤N∧(g.2.2.waits.length:Int)=k.1∧g.2.2.holds.length≤8∧g.2.2.converts.length≤8) (fun g=>g.1.toNat)
  (fun x y=>x.2=y.2∧Sim b x.1 y.1∧x.2.waits.length≤8∧x.2.holds.length≤8∧x.2.converts.length≤8) (by
  rintro ⟨n,d,q⟩ ⟨i,r,q'⟩ ⟨c1,hs,c3,c4,c5,c6,c7⟩
  simp only at c1 hs c3 c4 c5 c6 c7
  subst c1
  have he:=hs.e
  by_cases c:i < N∧r.e=0
  ·left
   obtain ⟨ca,cb⟩:=c
   obtain ⟨p,d1,r1,h1,h2,s1,_⟩:=zaT5 hb hs
   obtain ⟨a,d2,r2,h3,h4,s2,_⟩:=zaB1 hb s1
   obtain ⟨u,d3,r3,h5,h6,s3,_⟩:=zQ7 hb s2
   obtain ⟨x,d4,r4,h7,h8,s4,_⟩:=zQ7 hb s3
   have w1:IntKind.i64.wrap (n - 1)=n - 1:=zc4 (by omega) (by omega)
   have w2:IntKind.i64.wrap (i+1)=i+1:=zc4 (by omega) (by omega)
   have hW:zf3 (n,d,q)=some (.inl (n - 1,d4,⟨⟨q.resource.name,q.resource.kind,q.resource.units,q.resource.home⟩,q.holds,q.converts,q.waits++[{ { { { Wait.zero with proc:=p } with amount:=a } with priority:=u } with passed:=x }],q.gen⟩)):=by
    unfold zf3
    rw [if_pos (by simp [he,cb]; omega)]
    simp only [h1,h3,h5,h7,Option.bind_some,w1]
    rw [gdp (by omega)]
   have hR:zn5 v (i,r,q)=some (.inl (i+1,r4,⟨⟨q.resource.name,q.resource.kind,q.resource.units,q.resource.home⟩,q.holds,q.converts,q.waits++[{ { { { Wait.zero with proc:=p } with amount:=a } with priority:=u } with passed:=x }],q.gen⟩)):=by
    unfold zn5
    rw [if_pos (by simp [hv,cb]; omega)]
    simp only [h2,h4,h6,h8,Option.bind_some,w2]
    rw [gdp (by omega)]
   exact ⟨_,_,hW,hR,⟨rfl,s4,by simp only; omega,by simp only; omega,by simp only; omega,by simp; omega,c7⟩,by simp only; omega⟩
  ·right
   refine ⟨(d,q),(r,q),?_,?_,rfl,hs,by simp only; omega,c7⟩
   ·unfold zf3
    rw [if_neg (by simp [he]; intro _; have:=mt (And.intro (show i < N by omega)) c; exact this)]
   ·unfold zn5
    rw [if_neg (by simp [hv]; intro h; exact fun e=>c ⟨h,e⟩)])
 obtain ⟨⟨d',q'⟩,⟨r',q''⟩,h1,h2,h3,h4,h5⟩:=key (N,d,q) (0,r,q) ⟨rfl,hs,by simp,Int.le_refl _,h0,by simp only; rw [hq]; rfl,hi⟩
 simp only at h3 h4 h5
 subst h3
 exact ⟨d',r',q',h1,h2,h4,h5⟩
def zbn8 (q:Queue):Prop:=q.holds.length≤8∧q.converts.length≤8∧q.waits.length≤8
theorem zbS5 {b:List Int} (hb:Src b) {d:decoder} {r:ref16Reader} (h:Sim b d r):Rd b (zd5 d) (zi9 r) zbn8:=by
 unfold zd5 zi9
 refine (zbF5 hb h).bind fun v1 d r h _=>(zQ7 hb h).bind fun v2 d r h _=>(zQ7 hb h).bind fun v3 d r h _=>(zQ7 hb h).bind fun v4 d r h _=>(zQ7 hb h).bind fun v5 d r h _ =>
  (zap0 hb h 8 (by decide) (by decide)).bind fun v6 d r h ⟨k1,k2⟩=>?_
 obtain ⟨d,r,q,l1,l2,h,l3,l4⟩:=zbS3 hb k1 k2 (v6,r) rfl h ⟨⟨v1,v2,v3,v4⟩,[],[],[],v5⟩ rfl ⟨rfl,rfl⟩
 simp only [l1,l2,Option.bind_some]
 unfold zq5 zE0
 refine (zap0 hb h 8 (by decide) (by decide)).bind fun v7 d r h ⟨k1,k2⟩=>?_
 obtain ⟨d,r,q,l1,l2,h,l5,l6⟩:=zbA5 hb k1 k2 (v7,r) rfl h q l4.1 ⟨l3,l4.2⟩
 simp only [l1,l2,Option.bind_some]
 unfold zq4 zD9
 refine (zap0 hb h 8 (by decide) (by decide)).bind fun v8 d r h ⟨k1,k2⟩=>?_
 obtain ⟨d,r,q,l1,l2,h,l7,l8⟩:=zbS4 hb k1 k2 (v8,r) rfl h q l6.2 ⟨l6.1,l5⟩
 simp only [l1,l2,Option.bind_some]
 unfold zv7 zD8
 exact .ret h ⟨l8.1,l8.2,l7⟩
end Ab
end Go.Proofs.YtebopmkhhppfaaaGreatDoor
namespace Go.Proofs.YtebopmkhhppfaaaGreatDoor
namespace Ab
set_option linter.unusedVariables false
set_option linter.unusedSimpArgs false
theorem zbJ7 {d:decoder} (h:d.reader.err≠0):zb1 d=some (0,d):=by
 unfold zb1 zc7
 rw [if_pos (by simpa using h)]
 rfl
theorem zbS6 {r:ref16Reader} (h:r.e≠0):zc5 r=some (0,r):=by
 unfold zc5 zi3
 rw [if_pos (by simpa using h)]
 rfl
theorem zcv7 {b:List Int} (hb:Src b) {aW:Int→decoder→Option (Expr×decoder)} {aR:Int→ref16Reader→Option (Expr×ref16Reader)} (dp:Int)
  (ha:∀ d r,Sim b d r→Rd b (aW (IntKind.i64.wrap (dp+1)) d) (aR (IntKind.i64.wrap (dp+1)) r) (fun _=>True)) {N:Int} (h0:0≤N) (h8:N≤24) (v:Int×ref16Reader) (hv:v.1=N) {d:decoder} {r:ref16Reader} (hs:Sim b d r) (e:Expr) (hk:e.kids=[]) :
  ∃ d' r' e',zb4 (zg0 aW dp) (N,d,e)=some (d',e')∧zb4 (zo9 aR dp v) (0,r,e)=some (r',e')∧Sim b d' r':=by
 have key:=zay3 (b1:=zg0 aW dp) (b2:=zo9 aR dp v)
  (fun g k=>g.2.2=k.2.2∧Sim b g.2.1 k.2.1∧g.1=N - k.1∧0≤k.1∧k.1≤N∧(g.2.2.kids.length:Int)=k.1) (fun g=>g.1.toNat)
  (fun x y=>x.2=y.2∧Sim b x.1 y.1) (by
  rintro ⟨n,d,e⟩ ⟨i,r,e'⟩ ⟨c1,hs,c3,c4,c5,c6⟩
  simp only at c1 hs c3 c4 c5 c6
  subst c1
  have he:=hs.e
  by_cases c:i < N∧r.e=0
  ·left
   obtain ⟨ca,cb⟩:=c
   obtain ⟨k,d1,r1,h1,h2,s1,_⟩:=ha d r hs
   have w1:IntKind.i64.wrap (n - 1)=n - 1:=zc4 (by omega) (by omega)
   have w2:IntKind.i64.wrap (i+1)=i+1:=zc4 (by omega) (by omega)
   have hW:zg0 aW dp (n,d,e)=some (.inl (n - 1,d1,⟨e.k,⟨e.atom.name,⟨e.atom.amount.mode,e.atom.amount.units⟩⟩,e.kids++[k]⟩)):=by
    unfold zg0
    rw [if_pos (by simp [he,cb]; omega)]
    simp only [h1,Option.bind_some,w1]
    rw [gdp (by omega)]
   have hR:zo9 aR dp v (i,r,e)=some (.inl (i+1,r1,⟨e.k,⟨e.atom.name,⟨e.atom.amount.mode,e.atom.amount.units⟩⟩,e.kids++[k]⟩)):=by
    unfold zo9
    rw [if_pos (by simp [hv,cb]; omega)]
    simp only [h2,Option.bind_some,w2]
    rw [gdp (by omega)]
   exact ⟨_,_,hW,hR,⟨rfl,s1,by simp only; omega,by simp only; omega,by simp only; omega,by simp; omega⟩,by simp only; omega⟩
  ·right
   refine ⟨(d,e),(r,e),?_,?_,rfl,hs⟩
   ·unfold zg0
    rw [if_neg (by simp [he]; intro _; have:=mt (And.intro (show i < N by omega)) c; exact this)]
   ·unfold zo9
    rw [if_neg (by simp [hv]; intro h; exact fun e=>c ⟨h,e⟩)])
 obtain ⟨⟨d',e'⟩,⟨r',e''⟩,h1,h2,h3,h4⟩:=key (N,d,e) (0,r,e) ⟨rfl,hs,by simp,Int.le_refl _,h0,by simp only; rw [hk]; rfl⟩
 simp only at h3 h4
 subst h3
 exact ⟨d',r',e',h1,h2,h4⟩
theorem zbF6 {b:List Int} (hb:Src b):∀ (n:Nat) (dp:Int) (d:decoder) (r:ref16Reader),Sim b d r→1≤dp→dp≤6→7≤dp+n→Rd b (zg7 n dp d) (zr3 n dp r) (fun _=>True)
 | 0,dp,d,r,_,_,h2,h3=>by omega
 | n+1,dp,d,r,hs,h1,h2,h3=>by
  show Rd b (zl5 _ dp d) (zA2 _ dp r) _
  have k1:∀ d r,Sim b d r→(r.e=0→dp≤4)→Rd b (zk3 (zg7 n) dp d) (zs6 (zr3 n) dp r) (fun _=>True):=by
   intro d r hs hd
   unfold zk3 zs6
   by_cases he:r.e=0
   ·refine (zQ7 hb hs).bind fun v d r hs _=>?_
    have he1:=hs.e
    simp only [he1]
    by_cases c1:r.e=0
    ·simp only [c1,decide_true,Bool.not_true,Bool.false_eq_true,if_false]
     by_cases c2:v=0
     ·subst c2
      simp only [decide_true,if_true]
      exact (zbF5 hb hs).bind fun v2 d r hs _=>(zaB1 hb hs).bind fun v3 d r hs _=>.ret hs trivial
     ·simp only [c2,decide_false,Bool.false_eq_true,if_false]
      refine (zap0 hb hs 24 (by decide) (by decide)).bind fun v4 d r hs ⟨m1,m2⟩=>?_
      have w:IntKind.i64.wrap (dp+1)=dp+1:=zc4 (by omega) (by omega)
      have:=hd he
      obtain ⟨d,r,e,l1,l2,hs⟩:=zcv7 hb (aW:=zg7 n) (aR:=zr3 n) dp (fun d r hs=>by rw [w]; exact zbF6 hb n (dp+1) d r hs (by omega) (by omega) (by omega)) m1 m2 (v4,r) rfl hs
       ⟨v,⟨Expr.zero.atom.name,⟨Expr.zero.atom.amount.mode,Expr.zero.atom.amount.units⟩⟩,[]⟩ rfl
      simp only [l1,l2,Option.bind_some]
      unfold zr1 zG7
      exact .ret hs trivial
    ·simp only [c1,decide_false,Bool.not_false,if_true]
     exact .ret hs trivial
   ·rw [zbJ7 (by rw [hs.e]; exact he),zbS6 he]
    simp only [Option.bind_some,hs.e,he,decide_false,Bool.not_false,if_true]
    exact .ret hs trivial
  unfold zl5 zA2
  rw [hs.e]
  by_cases c:r.e=0∧4 < dp
  ·rw [if_pos (by simp [c.1,c.2]),if_pos (by simp [c.1,c.2])]
   exact k1 _ _ ⟨hs.rb,rfl,hs.a0,hs.a1,fun h=>by simp at h⟩ (fun h=>by simp at h)
  ·have c':¬ (decide (r.e=0)&&decide (4 < dp))=true:=by simpa using c
   rw [if_neg c',if_neg c']
   exact k1 d r hs fun h=>by have:=mt (And.intro h) c; omega
theorem zbS7 {b:List Int} (hb:Src b) {d:decoder} {r:ref16Reader} (hs:Sim b d r):Rd b (ze2 1 d) (zl0 1 r) (fun _=>True):=by
 unfold ze2 zl0
 exact zbF6 hb _ 1 d r hs (by decide) (by decide) (by decide)
def zfa4 (s:WaitState):Prop:=s.queues.length≤8∧s.needs.length≤8∧∀ q ∈ s.queues,zbn8 q
theorem zbJ8 {b:List Int} (hb:Src b) {N:Int} (h0:0≤N) (h8:N≤8) (v:Int×ref16Reader) (hv:v.1=N) {d:decoder} {r:ref16Reader} (hs:Sim b d r) :
  ∃ d' r' s',zb4 zk9 (N,d,⟨[],[]⟩)=some (d',s')∧zb4 (zC8 v) (0,r,⟨[],[]⟩)=some (r',s')∧Sim b d' r'∧s'.needs=[]∧s'.queues.length≤8∧∀ q ∈ s'.queues,zbn8 q:=by
 have key:=zay3 (b1:=zk9) (b2:=zC8 v)
  (fun g k=>g.2.2=k.2.2∧Sim b g.2.1 k.2.1∧g.1=N - k.1∧0≤k.1∧k.1≤N∧(g.2.2.queues.length:Int)=k.1∧g.2.2.needs=[]∧∀ q ∈ g.2.2.queues,zbn8 q) (fun g=>g.1.toNat)
  (fun x y=>x.2=y.2∧Sim b x.1 y.1∧x.2.needs=[]∧x.2.queues.length≤8∧∀ q ∈ x.2.queues,zbn8 q) (by
  rintro ⟨n,d,s⟩ ⟨i,r,s'⟩ ⟨c1,hs,c3,c4,c5,c6,c7,c8⟩
  simp only at c1 hs c3 c4 c5 c6 c7 c8
  subst c1
  have he:=hs.e
  by_cases c:i < N∧r.e=0
  ·left
   obtain ⟨ca,cb⟩:=c
   obtain ⟨q,d1,r1,h1,h2,s1,hq⟩:=zbS5 hb hs
   have w1:IntKind.i64.wrap (n - 1)=n - 1:=zc4 (by omega) (by omega)
   have w2:IntKind.i64.wrap (i+1)=i+1:=zc4 (by omega) (by omega)
   have hW:zk9 (n,d,s)=some (.inl (n - 1,d1,⟨s.queues++[q],s.needs⟩)):=by
    unfold zk9
    rw [if_pos (by simp [he,cb]; omega)]
    simp only [h1,Option.bind_some,w1]
    rw [gdp (by omega)]
   have hR:zC8 v (i,r,s)=some (.inl (i+1,r1,⟨s.queues++[q],s.needs⟩)):=by
    unfold zC8
    rw [if_pos (by simp [hv,cb]; omega)]
    simp only [h2,Option.bind_some,w2]
    rw [gdp (by omega)]
   refine ⟨_,_,hW,hR,⟨rfl,s1,by simp only; omega,by simp only; omega,by simp only; omega,by simp; omega,c7,fun x hx=>?_⟩,by simp only; omega⟩
   rcases List.mem_append.1 hx with hx|hx
   ·exact c8 x hx
   ·rw [List.mem_singleton.1 hx]; exact hq
  ·right
   refine ⟨(d,s),(r,s),?_,?_,rfl,hs,c7,by simp only; omega,c8⟩
   ·unfold zk9
    rw [if_neg (by simp [he]; intro _; have:=mt (And.intro (show i < N by omega)) c; exact this)]
   ·unfold zC8
    rw [if_neg (by simp [hv]; intro h; exact fun e=>c ⟨h,e⟩)])
 obtain ⟨⟨d',s'⟩,⟨r',s''⟩,h1,h2,h3,h4,h5⟩:=key (N,d,⟨[],[]⟩) (0,r,⟨[],[]⟩) ⟨rfl,hs,by simp,Int.le_refl _,h0,rfl,rfl,fun q hq=>by cases hq⟩
 simp only at h3 h4 h5
 subst h3
 exact ⟨d',r',s',h1,h2,h4,h5⟩
theorem zbS8 {b:List Int} (hb:Src b) {N:Int} (h0:0≤N) (h8:N≤8) (v:Int×ref16Reader) (hv:v.1=N) {d:decoder} {r:ref16Reader} (hs:Sim b d r) (s:WaitState) (hn:s.needs=[]) :
  ∃ d' r' l,zb4 zk8 (N,d,s)=some (d',⟨s.queues,l⟩)∧zb4 (zC7 v) (0,r,s)=some (r',⟨s.queues,l⟩)∧Sim b d' r'∧l.length≤8:=by
 have key:=zay3 (b1:=zk8) (b2:=zC7 v)
  (fun g k=>g.2.2=k.2.2∧Sim b g.2.1 k.2.1∧g.1=N - k.1∧0≤k.1∧k.1≤N∧(g.2.2.needs.length:Int)=k.1∧g.2.2.queues=s.queues) (fun g=>g.1.toNat)
  (fun x y=>x.2=y.2∧Sim b x.1 y.1∧x.2.queues=s.queues∧x.2.needs.length≤8) (by
  rintro ⟨n,d,s⟩ ⟨i,r,s'⟩ ⟨c1,hs,c3,c4,c5,c6,c7⟩
  simp only at c1 hs c3 c4 c5 c6 c7
  subst c1
  have he:=hs.e
  by_cases c:i < N∧r.e=0
  ·left
   obtain ⟨ca,cb⟩:=c
   obtain ⟨p,d1,r1,h1,h2,s1,_⟩:=zaT5 hb hs
   obtain ⟨g,d2,r2,h3,h4,s2,_⟩:=zQ7 hb s1
   obtain ⟨e,d3,r3,h5,h6,s3,_⟩:=zbS7 hb s2
   have w1:IntKind.i64.wrap (n - 1)=n - 1:=zc4 (by omega) (by omega)
   have w2:IntKind.i64.wrap (i+1)=i+1:=zc4 (by omega) (by omega)
   have hW:zk8 (n,d,s)=some (.inl (n - 1,d3,⟨s.queues,s.needs++[{ { { Need.zero with proc:=p } with gen:=g } with expr:=e }]⟩)):=by
    unfold zk8
    rw [if_pos (by simp [he,cb]; omega)]
    simp only [h1,h3,h5,Option.bind_some,w1]
    rw [gdp (by omega)]
   have hR:zC7 v (i,r,s)=some (.inl (i+1,r3,⟨s.queues,s.needs++[{ { { Need.zero with proc:=p } with gen:=g } with expr:=e }]⟩)):=by
    unfold zC7
    rw [if_pos (by simp [hv,cb]; omega)]
    simp only [h2,h4,h6,Option.bind_some,w2]
    rw [gdp (by omega)]
   exact ⟨_,_,hW,hR,⟨rfl,s3,by simp only; omega,by simp only; omega,by simp only; omega,by simp; omega,c7⟩,by simp only; omega⟩
  ·right
   refine ⟨(d,s),(r,s),?_,?_,rfl,hs,c7,by simp only; omega⟩
   ·unfold zk8
    rw [if_neg (by simp [he]; intro _; have:=mt (And.intro (show i < N by omega)) c; exact this)]
   ·unfold zC7
    rw [if_neg (by simp [hv]; intro h; exact fun e=>c ⟨h,e⟩)])
 obtain ⟨⟨d',s'⟩,⟨r',s''⟩,h1,h2,h3,h4,h5,h6⟩:=key (N,d,s) (0,r,s) ⟨rfl,hs,by simp,Int.le_refl _,h0,by simp only; rw [hn]; rfl,rfl⟩
 simp only at h3 h4 h5 h6
 subst h3
 obtain ⟨sq,sn⟩:=s'
 simp only at h5
 subst h5
 exact ⟨d',r',sn,h1,h2,h4,h6⟩
theorem zbF7 {b:List Int} (hb:Src b):(∃ e,zf1 b=some (WaitState.zero,e)∧zu0 b=some (WaitState.zero,e)) ∨
  ∃ s,zfa4 s∧(zf1 b=(zi1 s).bind fun v=>if (!v)=true then some (WaitState.zero,2) else some (s,0)) ∧
   (zu0 b=(zy4 s).bind fun v=>if (!v)=true then some (WaitState.zero,2) else some (s,0)):=by
 have h0:Sim b ⟨{ waitstateReader.zero with rest:=b }⟩ { ref16Reader.zero with b:=b }:=⟨rfl,rfl,Int.le_refl _,by show (0:Int)≤_; omega,fun _=>rfl⟩
 unfold zf1 zu0
 obtain ⟨n1,d,r,h1,h2,hs,k1,k2⟩:=zap0 hb h0 8 (by decide) (by decide)
 rw [h1,h2]
 simp only [Option.bind_some]
 obtain ⟨d,r,s,l1,l2,hs,l3,l4,l5⟩:=zbJ8 hb k1 k2 (n1,r) rfl hs
 rw [l1,l2]
 simp only [Option.bind_some]
 unfold zE6 zW4
 obtain ⟨n2,d,r,h1,h2,hs,k1,k2⟩:=zap0 hb hs 8 (by decide) (by decide)
 rw [h1,h2]
 simp only [Option.bind_some]
 obtain ⟨d,r,l,l1,l2,hs,l6⟩:=zbS8 hb k1 k2 (n2,r) rfl hs s l3
 rw [l1,l2]
 simp only [Option.bind_some]
 unfold zE5 zW3
 simp only [hs.e]
 by_cases c:r.e=0
 ·have hr:=hs.rest c
  have h1:=hs.a0
  have h2:=hs.a1
  have hl:(d.reader.rest.length:Int)=b.length - r.at_:=by rw [hr,List.length_drop]; omega
  simp only [c,decide_true,Bool.not_true,Bool.false_eq_true,if_false,hl]
  by_cases c2:r.at_ < b.length
  ·left
   exact ⟨6,by rw [if_pos (by simp; omega)],by rw [if_pos (by simpa using c2)]⟩
  ·right
   refine ⟨⟨s.queues,l⟩,⟨l4,l6,l5⟩,?_,?_⟩
   ·rw [if_neg (by simp; omega)]
   ·rw [if_neg (by simpa using c2)]
 ·left
  exact ⟨r.e,by simp [c],by simp [c]⟩
end Ab
end Go.Proofs.YtebopmkhhppfaaaGreatDoor
namespace Go.Proofs.YtebopmkhhppfaaaGreatDoor
namespace Ab
set_option linter.unusedVariables false
set_option linter.unusedSimpArgs false
theorem zaf7 (n:Int) (h0:0≤n) (h1:n < 2 ^ 64):IntKind.u64.wrap n=n:=by rw [IntKind.wrap_u64]; omega
theorem zbJ9 {x:Int} (h0:0≤x) (h1:x < 18446744073709551616):zx2 .and .u64 x 127=x % 128:=bits_mask .u64 64 (by decide) zaf7 7 (by decide) x h0 (by omega)
theorem zbv6 {x:Int} (h0:0≤x) (h1:x < 256):zx2 .and .u8 x 127=x % 128:=bits_mask .u8 8 (by decide) wraps_u8 7 (by decide) x h0 (by omega)
theorem zbF8 (k:IntKind) (x y:Int):zx2 .or k x y=zx2 .or k y x:=by simp only [zx2,BitVec.or_comm]
theorem zcv8 {y:Int} (h0:0≤y) (h1:y < 128):zx2 .or .u8 y 128=y+128:=by
 rw [zbF8]
 have:zx2 .or .u8 128 y=128+y:=bits_join .u8 8 (by decide) wraps_u8 7 128 y (by decide) (by decide) (by decide) h0 (by omega) (by omega)
 rw [this]; omega
theorem zbO0 (s:Nat) (hs:s≤28) {v c:Int} (hv0:0≤v) (hv:v < 2 ^ s) (hc0:0≤c) (hc:c < 128):zx2 .or .u64 v (IntKind.u64.wrap (c * 2 ^ s))=v+c * 2 ^ s:=by
 have hp:(2:Int) ^ s≤2 ^ 28:=by exact_mod_cast Nat.pow_le_pow_right (by decide) hs
 have hq:(0:Int) < 2 ^ s:=by exact_mod_cast Nat.two_pow_pos s
 have hm:c * 2 ^ s≤127 * 2 ^ 28:=Int.mul_le_mul (by omega) hp (by omega) (by decide)
 have hm0:0≤c * 2 ^ s:=Int.mul_nonneg hc0 (by omega)
 rw [zaf7 _ hm0 (by omega),zbF8]
 have:zx2 .or .u64 (c * 2 ^ s) v=c * 2 ^ s+v:=bits_join .u64 64 (by decide) zaf7 s _ v hm0 (Int.mul_emod_left _ _) (by omega) hv0 hv (by omega)
 rw [this]; omega
def encU (n:Nat):List Int:=if n < 128 then [(n:Int)] else ((n % 128+128:Nat):Int) :: encU (n / 128)
termination_by n
decreasing_by omega
theorem zat8 {n:Nat} (h:n < 128):encU n=[(n:Int)]:=by rw [encU,if_pos h]
theorem zaJ4 {n:Nat} (h:¬ n < 128):encU n=((n % 128+128:Nat):Int) :: encU (n / 128):=by rw [encU,if_neg h]
theorem zaH8:∀ (k n:Nat),n < 128 ^ (k+1)→1≤(encU n).length∧(encU n).length≤k+1
 | 0,n,h=>by rw [zat8 (by omega)]; simp
 | k+1,n,h=>by
  by_cases c:n < 128
  ·rw [zat8 c]; simp
  ·rw [zaJ4 c]
   have:=zaH8 k (n / 128) (by rw [Nat.pow_succ] at h; omega)
   simp only [List.length_cons]; omega
theorem zaO8:∀ (n:Nat),zy9 (encU n):=by
 intro n
 induction n using Nat.strongRecOn with
 | _ n ih =>
  by_cases c:n < 128
  ·rw [zat8 c]; intro x hx; rw [List.mem_singleton] at hx; omega
  ·rw [zaJ4 c]
   intro x hx
   rcases List.mem_cons.1 hx with rfl|hx
   ·omega
   ·exact ih (n / 128) (by omega) x hx
theorem zaH9:∀ (k n:Nat) (l:List Int),n < 128 ^ (k+1)→k≤8→l.length+k≤4294967290→∃ y l',zb4 zh8 ((n:Int),l)=some (y,l')∧l'++[IntKind.u8.wrap y]=l++encU n∧l'.length≤l.length+k
 | 0,n,l,h,hk,hl=>by
  refine ⟨n,l,?_,?_,by omega⟩
  ·rw [zd2]; unfold zh8; rw [if_neg (by simp; omega)]
  ·rw [zat8 (by omega),wraps_u8 _ (by omega) (by omega)]
 | k+1,n,l,h,hk,hl=>by
  by_cases c:n < 128
  ·refine ⟨n,l,?_,?_,by omega⟩
   ·rw [zd2]; unfold zh8; rw [if_neg (by simp; omega)]
   ·rw [zat8 c,wraps_u8 _ (by omega) (by omega)]
  ·have hbig:n < 18446744073709551616:=by
    have:128 ^ (k+1+1)≤128 ^ 9:=Nat.pow_le_pow_right (by decide) (by omega)
    omega
   obtain ⟨y,l',h1,h2,h3⟩:=zaH9 k (n / 128) (l++[((n % 128+128:Nat):Int)]) (by rw [Nat.pow_succ] at h; omega) (by omega) (by simp; omega)
   refine ⟨y,l',?_,?_,by simp at h3; omega⟩
   ·rw [zd2]
    have hstep:zh8 ((n:Int),l)=some (.inl (((n / 128:Nat):Int),l++[((n % 128+128:Nat):Int)])):=by
     unfold zh8
     simp only
     rw [if_pos (by simp; omega),gdp (by omega),zbJ9 (by omega) (by omega),wraps_u8 _ (by omega) (by omega),zcv8 (by omega) (by omega)]
     have:(n:Int).fdiv (2 ^ 7)=((n / 128:Nat):Int):=by rw [Int.fdiv_eq_ediv_of_nonneg _ (by decide)]; omega
     rw [this]
     have:(n:Int) % 128+128=((n % 128+128:Nat):Int):=by omega
     rw [this]
    rw [hstep]
    exact h1
   ·rw [h2,zaJ4 c,List.append_assoc]; rfl
theorem zaY1 {n:Nat} {l:List Int} (hn:n < 128 ^ 9) (hl:l.length≤4294967000):zm8 l (n:Int)=some (l++encU n):=by
 obtain ⟨y,l',h1,h2,h3⟩:=zaH9 8 n l hn (by decide) (by omega)
 unfold zm8
 rw [gdp (by omega),h1,Option.bind_some]
 unfold zG6
 rw [gdp (by simp only; omega)]
 simp only [h2]
theorem zbF9 {n:Nat} {l:List Int} (hn:n < 128 ^ 9) (hl:l.length≤4294967000):zD2 l (n:Int)=some (l++encU n):=by
 rw [← zaY1 hn hl]; rfl
theorem zbK0 (g:Int×List Int):zG2 g=zh8 g:=by
 unfold zG2 zh8
 by_cases c:127 < g.1
 ·rw [if_pos (by simpa using c),if_pos (by simp; omega)]
 ·rw [if_neg (by simpa using c),if_neg (by simp; omega)]
theorem zbS9 (l:List Int) (x:Int) (hl:l.length≤4294967000):zl8 l x=zm8 l x:=by
 unfold zl8 zm8
 have hb:zG2=zh8:=funext zbK0
 have ht:l.take ((l.length:Int).toNat)=l:=by rw [Int.toNat_natCast,List.take_length]
 have g2:l.length+1≤4294967296:=by omega
 have g3:l.length≤4294967296:=by omega
 rw [ht,hb,gdp (by omega),gdp g2,gdp g3,zd2 zh8 (x,l)]
 by_cases c:127 < x
 ·rw [if_pos (by simpa using c)]
  have:zh8 (x,l)=some (.inl (x.fdiv (2 ^ 7),l++[zx2 .or .u8 (IntKind.u8.wrap (zx2 .and .u64 x 127)) 128])):=by
   unfold zh8
   rw [if_pos (by simp; omega),gdp (by simp only; omega)]
  rw [this]
  rfl
 ·rw [if_neg (by simpa using c)]
  have:zh8 (x,l)=some (.inr (x,l)):=by
   unfold zh8
   rw [if_neg (by simp; omega)]
  rw [this]
  show _=zG6 (x,l)
  unfold zG6
  rw [gdp g2]
theorem zbv7 {n:Nat} {l:List Int} (hn:n < 128 ^ 9) (hl:l.length≤4294967000):zl8 l (n:Int)=some (l++encU n):=by
 rw [zbS9 l _ hl,zaY1 hn hl]
theorem zbG0 {n:Nat} {l:List Int} (hn:n < 128 ^ 9) (hl:l.length≤4294967000):zx5 l (n:Int)=some (l++encU n):=by
 rw [← zbv7 hn hl]; rfl
theorem zbT0 {a rest:List Int} (ha:zy9 a):∀ (k m i:Nat) (v:Int),i+k=4→m < 128 ^ (k+1)→a.drop i=encU m++rest→(i=0∨1≤m)→0≤v→v < 2 ^ (7 * i) →
  zb4 (zm4 a) (v,(i:Int))=some (.inr (v+(m:Int) * 2 ^ (7 * i),((i+(encU m).length:Nat):Int),0)):=by
 have step:∀ (m i:Nat) (v:Int),i≤4→a.drop i=encU m++rest→0≤v→v < 2 ^ (7 * i)→(m < 128→(i=0∨1≤m)→zm4 a (v,(i:Int))=some (.inr (.inr (v+(m:Int) * 2 ^ (7 * i),((i+1:Nat):Int),0)))) ∧
   (¬ m < 128→zm4 a (v,(i:Int))=some (.inl (v+((m % 128:Nat):Int) * 2 ^ (7 * i),((i+1:Nat):Int)))):=by
  intro m i v hi hd h0 h1
  have hne:encU m≠[]:=by
   rw [encU]; split <;> simp
  have hlen:i < a.length:=by
   have:=congrArg List.length hd
   rw [List.length_drop,List.length_append] at this
   have:0 < (encU m).length:=List.length_pos_iff.2 hne
   omega
  have hw:IntKind.i64.wrap (7 * (i:Int))=((7 * i:Nat):Int):=by rw [zc4 (by omega) (by omega)]; omega
  have hw2:(IntKind.i64.wrap (7 * (i:Int))).toNat=7 * i:=by rw [hw]; rfl
  have hmin:Nat.min (7 * i) IntKind.u64.bits=7 * i:=Nat.min_eq_left (by show 7 * i≤64; omega)
  have hget:∀ c t,a.drop i=c :: t→a.getD ((i:Int).toNat) 0=c:=fun c t e=>by
   have:=zao8 a i 0 hlen
   rw [e] at this
   exact (List.cons.inj this).1.symm
  unfold zm4
  simp only
  rw [if_pos (by simp; omega),if_neg (by simp; omega),gdp (by omega),if_neg (by simp; omega),gdp (by omega),ze6 i (by omega),hw2,hmin]
  constructor
  ·intro c hm
   have hc:=hget (m:Int) rest (by rw [hd,zat8 c]; rfl)
   rw [hc,(zbJ6 (m:Int) (by omega) (by omega)).2 (by omega),zbv6 (by omega) (by omega),zaf7 ((m:Int) % 128) (by omega) (by omega),zbO0 (7 * i) (by omega) h0 h1 (by omega) (by omega)]
   have hmm:(m:Int) % 128=m:=by omega
   have h2:(decide ((m:Int)=0)&&decide ((0:Int) < (i:Int)))=false:=by
    rw [Bool.eq_false_iff]; simp; omega
   rw [hmm,h2]
   simp
  ·intro c
   have hc:=hget ((m % 128+128:Nat):Int) (encU (m / 128)++rest) (by rw [hd,zaJ4 c]; rfl)
   have hb:¬ zx2 .and .u8 ((m % 128+128:Nat):Int) 128=0:=fun e=>by have:=(zbJ6 _ (by omega) (by omega)).1 e; omega
   rw [hc,zbv6 (by omega) (by omega),zaf7 (((m % 128+128:Nat):Int) % 128) (by omega) (by omega),zbO0 (7 * i) (by omega) h0 h1 (by omega) (by omega)]
   have hmm:((m % 128+128:Nat):Int) % 128=((m % 128:Nat):Int):=by omega
   rw [hmm,if_pos (by simpa using hb)]
 intro k
 induction k with
 | zero =>
  intro m i v hi hm hd h0 hv0 hv
  rw [zd2,(step m i v (by omega) hd hv0 hv).1 (by omega) h0,zat8 (by omega)]
  rfl
 | succ k ih =>
  intro m i v hi hm hd h0 hv0 hv
  by_cases c:m < 128
  ·rw [zd2,(step m i v (by omega) hd hv0 hv).1 c h0,zat8 c]
   rfl
  ·rw [zd2,(step m i v (by omega) hd hv0 hv).2 c]
   have hp:(2:Int) ^ (7 * (i+1))=128 * 2 ^ (7 * i):=by rw [Nat.mul_add,Int.pow_add]; omega
   have hq:(0:Int) < 2 ^ (7 * i):=by exact_mod_cast Nat.two_pow_pos _
   have hm1:((m % 128:Nat):Int) * 2 ^ (7 * i)≤127 * 2 ^ (7 * i):=Int.mul_le_mul_of_nonneg_right (by omega) (by omega)
   have hm0:0≤((m % 128:Nat):Int) * 2 ^ (7 * i):=Int.mul_nonneg (by omega) (by omega)
   have:=ih (m / 128) (i+1) (v+((m % 128:Nat):Int) * 2 ^ (7 * i)) (by omega) (by rw [Nat.pow_succ] at hm; omega) (by
    rw [← List.drop_drop,hd,zaJ4 c]; rfl) (.inr (by omega)) (by omega) (by rw [hp]; omega)
   simp only
   rw [this,zaJ4 c,hp]
   have e1:(m:Int)=128 * ((m / 128:Nat):Int)+((m % 128:Nat):Int):=by omega
   have e2:v+((m % 128:Nat):Int) * 2 ^ (7 * i)+((m / 128:Nat):Int) * (128 * 2 ^ (7 * i))=v+(m:Int) * 2 ^ (7 * i):=by
    rw [e1,Int.add_mul,Int.mul_assoc 128,Int.mul_left_comm]
    omega
   rw [e2]
   simp only [List.length_cons]
   rw [show i+1+(encU (m / 128)).length=i+((encU (m / 128)).length+1) by omega]
theorem zbG1 {n:Nat} {rest:List Int} (hn:n < 128 ^ 5) (hr:zy9 rest):zk5 (encU n++rest)=some ((n:Int),((encU n).length:Int),0):=by
 have hb:zy9 (encU n++rest):=fun x hx=>by
  rcases List.mem_append.1 hx with h|h
  ·exact zaO8 n x h
  ·exact hr x h
 unfold zk5
 have:=zbT0 (rest:=rest) hb 4 n 0 0 rfl hn rfl (.inl rfl) (Int.le_refl _) (by decide)
 rw [show ((0,0):Int×Int)=(0,((0:Nat):Int)) from rfl,this]
 simp
end Ab
end Go.Proofs.YtebopmkhhppfaaaGreatDoor
namespace Go.Proofs.YtebopmkhhppfaaaGreatDoor
namespace Ab
set_option linter.unusedVariables false
set_option linter.unusedSimpArgs false
def encI (x:Int):List Int:=encU x.toNat
def encT (s:ByteArray):List Int:=encU s.size++s.toList.map fun b=>(b.toNat:Int)
def encP (p:Proc):List Int:=encI p.site++encI p.inc++encI p.num
def encA (a:Amount):List Int:=encI a.mode++encI a.units
mutual
def encE:Expr→List Int
 | ⟨k,a,ks⟩=>encI k++(if k=0 then encT a.name++encA a.amount else encI (ks.length:Int)++zbG2 ks)
def zbG2:List Expr→List Int
 | []=>[]
 | k :: l=>encE k++zbG2 l
end
theorem zbd4 (e:Expr):encE e=encI e.k++(if e.k=0 then encT e.atom.name++encA e.atom.amount else encI (e.kids.length:Int)++e.kids.flatMap encE):=by
 have:∀ l,zbG2 l=l.flatMap encE:=by
  intro l
  induction l with
  | nil=>rw [zbG2]; rfl
  | cons x l ih=>rw [zbG2,ih]; rfl
 cases e
 rw [encE,this]
def encH (h:Hold):List Int:=encP h.proc++encA h.amount
def encC (w:Wait):List Int:=encP w.proc++encA w.amount
def encW (w:Wait):List Int:=encP w.proc++encA w.amount++encI w.priority++encI w.passed
def encQ (q:Queue):List Int:=encT q.resource.name++(encI q.resource.kind++(encI q.resource.units++(encI q.resource.home++(encI q.gen++(encI (q.holds.length:Int)++(q.holds.flatMap encH++(encI (q.converts.length:Int)++(q.converts.flatMap encC++(encI (q.waits.length:Int)++q.waits.flatMap encW)))))))))
def encN (n:Need):List Int:=encP n.proc++(encI n.gen++encE n.expr)
def encS (s:WaitState):List Int:=encI (s.queues.length:Int)++(s.queues.flatMap encQ++(encI (s.needs.length:Int)++s.needs.flatMap encN))
theorem zy9.app {a b:List Int} (ha:zy9 a) (hb:zy9 b):zy9 (a++b):=fun x hx=>by
 rcases List.mem_append.1 hx with h|h
 ·exact ha x h
 ·exact hb x h
theorem zy9.nil:zy9 []:=fun x hx=>by cases hx
theorem zy9.flat {α:Type} {f:α→List Int} (h:∀ x,zy9 (f x)) (l:List α):zy9 (l.flatMap f):=fun x hx=>by
 obtain ⟨a,_,ha⟩:=List.mem_flatMap.1 hx
 exact h a x ha
theorem zr4 (x:Int):zy9 (encI x):=zaO8 _
theorem zbn9 (s:ByteArray):zy9 (encT s):=(zaO8 _).app fun x hx=>by
 obtain ⟨b,_,rfl⟩:=List.mem_map.1 hx
 have:=b.toNat_lt
 omega
theorem zaB2 (p:Proc):zy9 (encP p):=((zr4 _).app (zr4 _)).app (zr4 _)
theorem zaB3 (a:Amount):zy9 (encA a):=(zr4 _).app (zr4 _)
theorem zaI0:∀ (n:Nat) (e:Expr),_root_.SizeOf.sizeOf e < n→zy9 (encE e)
 | 0,_,h=>by omega
 | n+1,e,h=>by
  rw [zbd4]
  refine (zr4 _).app ?_
  split
  ·exact (zbn9 _).app (zaB3 _)
  ·refine (zr4 _).app fun x hx=>?_
   obtain ⟨k,hk,hx⟩:=List.mem_flatMap.1 hx
   exact zaI0 n k (zac6 h hk) x hx
theorem zbK1 (e:Expr):zy9 (encE e):=zaI0 _ e (Nat.lt_succ_self _)
theorem zbK2 (h:Hold):zy9 (encH h):=(zaB2 _).app (zaB3 _)
theorem zbK3 (h:Wait):zy9 (encC h):=(zaB2 _).app (zaB3 _)
theorem zbK4 (h:Wait):zy9 (encW h):=(((zaB2 _).app (zaB3 _)).app (zr4 _)).app (zr4 _)
theorem zbK5 (q:Queue):zy9 (encQ q) :=
 (zbn9 _).app ((zr4 _).app ((zr4 _).app ((zr4 _).app ((zr4 _).app ((zr4 _).app ((zy9.flat zbK2 _).app ((zr4 _).app ((zy9.flat zbK3 _).app ((zr4 _).app (zy9.flat zbK4 _))))))))))
theorem zbK6 (n:Need):zy9 (encN n):=(zaB2 _).app ((zr4 _).app (zbK1 _))
theorem zbK7 (s:WaitState):zy9 (encS s):=(zr4 _).app ((zy9.flat zbK5 _).app ((zr4 _).app (zy9.flat zbK6 _)))
abbrev D (r:List Int):decoder:=⟨⟨r,0⟩⟩
def okI (x:Int):Prop:=0≤x∧x≤1073741824
theorem Src.right {a b:List Int} (h:Src (a++b)):Src b:=⟨fun x hx=>h.bytes x (List.mem_append.2 (.inr hx)),by have:=h.len; rw [List.length_append] at this; omega⟩
theorem zaJ5 {x:Int} (h:okI x) {r:List Int} (hr:Src (encI x++r)):zk5 (encI x++r)=some (x,((encI x).length:Int),0):=by
 have hb:=hr.right.bytes
 unfold encI
 obtain ⟨h0,h1⟩:=h
 rw [zbG1 (by omega) hb]
 rw [Int.toNat_of_nonneg h0]
theorem zba8 {lim over x:Int} (h0:0≤x) (h1:x≤lim) (h2:lim≤1073741824) {r:List Int} (hr:Src (encI x++r)):zc7 lim over (D (encI x++r))=some (x,D r):=by
 unfold zc7
 rw [if_neg (by simp),zaJ5 ⟨h0,by omega⟩ hr,Option.bind_some,zaf7 lim (by omega) (by omega),if_neg (by simp; omega)]
 unfold zi2
 rw [if_neg (by simp),gdp (by simp; omega)]
 simp only [zc4 (x:=x) (by omega) (by omega),Int.toNat_natCast,List.drop_left]
theorem zaj8 {lim x:Int} (h0:0≤x) (h1:x≤lim) (h2:lim≤1073741824) {r:List Int} (hr:Src (encI x++r)):zb9 lim (D (encI x++r))=some (x,D r):=by
 unfold zb9
 rw [zba8 h0 h1 h2 hr]; rfl
theorem zI2 {x:Int} (h:okI x) {r:List Int} (hr:Src (encI x++r)):zb1 (D (encI x++r))=some (x,D r):=by
 unfold zb1
 rw [zba8 h.1 h.2 (by decide) hr]; rfl
theorem zbr2 (s:ByteArray):zam5 (s.toList.map fun b=>(b.toNat:Int))=s:=by
 have:(s.toList.map fun b=>(b.toNat:Int)).map (fun n=>UInt8.ofNat n.toNat)=s.data.toList:=by
  rw [List.map_map,ByteArray.toList_eq]
  conv=>rhs; rw [← List.map_id s.data.toList]
  refine List.map_congr_left fun b _=>?_
  simp
 unfold zam5
 rw [this]
theorem zaB4 (s:ByteArray):s.toList.length=s.size:=by rw [ByteArray.toList_eq]; rfl
theorem zbv8 {s:ByteArray} (h:s.size≤1024) {r:List Int} (hr:Src (encT s++r)):zd6 (D (encT s++r))=some (s,D r):=by
 have hl:(s.toList.map fun b=>(b.toNat:Int)).length=s.size:=by rw [List.length_map,zaB4]
 have hlen:=zaH8 4 s.size (by omega)
 have hr2:=hr.len
 have hr3:(encT s++r).length=(encU s.size).length+(s.size+r.length):=by unfold encT; rw [List.length_append,List.length_append,hl]; omega
 have ht:zo4 (encT s++r)=some (s,((encT s).length:Int),0):=by
  unfold zo4
  unfold encT at hr ⊢
  rw [List.append_assoc] at hr ⊢
  rw [zbG1 (by omega) hr.right.bytes,Option.bind_some]
  rw [if_neg (by simp),if_neg (by simp; omega)]
  simp only
  have w1:IntKind.i64.wrap (s.size:Int)=(s.size:Int):=zc4 (by omega) (by omega)
  have w2:IntKind.i64.wrap (((encU s.size).length:Int)+(s.size:Int))=((encU s.size).length+s.size:Nat):=by rw [zc4 (by omega) (by omega)]; omega
  have e1:(encU s.size++((s.toList.map fun b=>(b.toNat:Int))++r)).length=(encU s.size).length+(s.size+r.length):=by rw [List.length_append,List.length_append,hl]
  rw [w1,w2,e1,zc4 (by omega) (by omega),if_neg (by simp; omega),gdp (by omega)]
  simp only [Int.toNat_natCast]
  rw [List.take_append,List.take_of_length_le (by omega),show (encU s.size).length+s.size - (encU s.size).length=s.size by omega,List.drop_left,List.take_append,List.take_of_length_le (by omega),hl,Nat.sub_self,List.take_zero,List.append_nil,zbr2]
  congr 3
  rw [List.length_append,hl]
 unfold zd6
 rw [if_neg (by simp),ht,Option.bind_some,if_neg (by simp),gdp (by simp; omega)]
 simp only [Int.toNat_natCast,List.drop_left]
theorem zaB5 {p:Proc} (h:za9 p=true):okI p.site∧okI p.inc∧okI p.num:=by
 unfold za9 zu3 at h
 simp only [Bool.and_eq_true,decide_eq_true_eq] at h
 unfold okI
 omega
theorem zaJ6 {p:Proc} (h:za9 p=true) {r:List Int} (hr:Src (encP p++r)):zd0 (D (encP p++r))=some (p,D r):=by
 obtain ⟨k1,k2,k3⟩:=zaB5 h
 have hlen:∀ x:Int,okI x→(encI x).length≤5:=fun x hx=>(zaH8 4 x.toNat (by have:=hx.1; have:=hx.2; omega)).2
 have l1:=hlen _ k1
 have l2:=hlen _ k2
 have l3:=hlen _ k3
 have hr0:=hr.len
 have ht:zr2 (encP p++r)=some (p,((encP p).length:Int),0):=by
  have hr':=hr
  unfold encP at hr' ⊢
  rw [List.append_assoc,List.append_assoc] at hr' ⊢
  have s2:=hr'.right
  have s3:=s2.right
  have hn:∀ x:Int,okI x→IntKind.i64.wrap (if 1073741824 < x then 1073741824 else x)=x:=fun x hx=>by rw [if_neg (by have:=hx.2; omega),zc4 (by have:=hx.1; omega) (by have:=hx.2; omega)]
  have hlen0:(encI p.site++(encI p.inc++(encI p.num++r))).length=(encI p.site).length+((encI p.inc).length+((encI p.num).length+r.length)):=by simp
  have hrl:=hr.right.len
  have t1:zl4 (encI p.site++(encI p.inc++(encI p.num++r))) (0,0,Arr.rep 3 0)=some (.inl (((encI p.site).length:Int),1,Arr.put (Arr.rep 3 0) 0 p.site)):=by
   unfold zl4
   simp only [Int.toNat_zero,List.drop_zero]
   rw [if_pos (by decide),gdp (by omega),zaJ5 k1 hr',Option.bind_some,if_neg (by simp),gdp (by decide)]
   simp only [hn _ k1]
   rw [zc4 (by omega) (by omega),Int.zero_add]
   rfl
  have t2:∀ z,zl4 (encI p.site++(encI p.inc++(encI p.num++r))) (((encI p.site).length:Int),1,z)=some (.inl (((encI p.site).length:Int)+((encI p.inc).length:Int),2,Arr.put z 1 p.inc)):=by
   intro z
   unfold zl4
   simp only [Int.toNat_natCast,List.drop_left]
   rw [if_pos (by simp),gdp (by omega),zaJ5 k2 s2,Option.bind_some,if_neg (by simp),gdp (by decide)]
   simp only [hn _ k2]
   rw [zc4 (by omega) (by omega)]
   rfl
  have t3:∀ z,zl4 (encI p.site++(encI p.inc++(encI p.num++r))) (((encI p.site).length:Int)+((encI p.inc).length:Int),2,z)=some (.inl (((encI p.site).length:Int)+((encI p.inc).length:Int)+((encI p.num).length:Int),3,Arr.put z 2 p.num)):=by
   intro z
   unfold zl4
   have hd:(encI p.site++(encI p.inc++(encI p.num++r))).drop (((encI p.site).length:Int)+((encI p.inc).length:Int)).toNat=encI p.num++r:=by
    rw [show (((encI p.site).length:Int)+((encI p.inc).length:Int)).toNat=(encI p.site).length+(encI p.inc).length by omega,← List.drop_drop,List.drop_left,List.drop_left]
   simp only [hd]
   rw [if_pos (by simp),gdp (by omega),zaJ5 k3 s3,Option.bind_some,if_neg (by simp),gdp (by decide)]
   simp only [hn _ k3]
   rw [zc4 (by omega) (by omega)]
   rfl
  have t4:∀ (i:Int) z,zl4 (encI p.site++(encI p.inc++(encI p.num++r))) (i,3,z)=some (.inr (.inl (i,z))):=fun i z=>by
   unfold zl4
   rw [if_neg (by simp)]
  unfold zr2
  rw [zd2,t1]
  simp only
  rw [zd2,t2]
  simp only
  rw [zd2,t3]
  simp only
  rw [zd2,t4]
  simp only [Option.bind_some]
  unfold zU9
  have g:∀ x y z:Int,(⟨Arr.get (Arr.put (Arr.put (Arr.put (Arr.rep 3 0) 0 x) 1 y) 2 z) 0 0,Arr.get (Arr.put (Arr.put (Arr.put (Arr.rep 3 0) 0 x) 1 y) 2 z) 1 0,Arr.get (Arr.put (Arr.put (Arr.put (Arr.rep 3 0) 0 x) 1 y) 2 z) 2 0⟩:Proc)=⟨x,y,z⟩:=fun _ _ _=>rfl
  simp only [g]
  rw [if_neg (by simpa using h)]
  congr 3
  simp only [List.length_append]; omega
 unfold zd0
 have:(encP p++r).length=(encP p).length+r.length:=List.length_append
 rw [if_neg (by simp),ht,Option.bind_some,if_neg (by simp),gdp (by simp only; omega)]
 simp only [Int.toNat_natCast,List.drop_left]
theorem zat9 {a:Amount} (h1:okI a.mode) (h2:okI a.units) {r:List Int} (hr:Src (encA a++r)):zc1 (D (encA a++r))=some (a,D r):=by
 unfold zc1
 unfold encA at hr ⊢
 rw [List.append_assoc] at hr ⊢
 rw [zI2 h1 hr,Option.bind_some,zI2 h2 hr.right]
 rfl
theorem zaj9 {α Q:Type} {body:Int×decoder×Q→Option ((Int×decoder×Q)⊕(decoder×Q))} {enc:α→List Int} {ok:α→Prop} (R:List α→Q)
  (hs:∀ (n:Int) x rest pre,ok x→Src (enc x++rest)→0 < n→n≤100→pre.length≤100→body (n,D (enc x++rest),R pre)=some (.inl (n - 1,D rest,R (pre++[x]))))
  (he:∀ d q,body (0,d,q)=some (.inr (d,q))):∀ (l pre:List α) (rest:List Int),(∀ x ∈ l,ok x)→Src (l.flatMap enc++rest)→pre.length+l.length≤100 →
   zb4 body ((l.length:Int),D (l.flatMap enc++rest),R pre)=some (D rest,R (pre++l))
 | [],pre,rest,_,_,_=>by
  have e:body ((([]:List α).length:Int),D (([]:List α).flatMap enc++rest),R pre)=some (.inr (D rest,R pre)):=he _ _
  rw [zd2,e,List.append_nil]
 | x :: l,pre,rest,h,hr,hl=>by
  rw [List.flatMap_cons,List.append_assoc] at hr ⊢
  simp only [List.length_cons] at hl ⊢
  rw [zd2,hs _ x _ pre (h x (.head _)) hr (by omega) (by omega) (by omega)]
  simp only
  have:=zaj9 R hs he l (pre++[x]) rest (fun y hy=>h y (.tail _ hy)) hr.right (by simp; omega)
  rw [show (((l.length+1:Nat):Int) - 1)=(l.length:Int) by omega,this,List.append_assoc]
  rfl
end Ab
end Go.Proofs.YtebopmkhhppfaaaGreatDoor
namespace Go.Proofs.YtebopmkhhppfaaaGreatDoor
namespace Ab
set_option linter.unusedVariables false
set_option linter.unusedSimpArgs false
def okA (a:Amount):Prop:=okI a.mode∧okI a.units
theorem zaJ7 {a:Amount} (h:zah8 a=true):okA a:=by
 unfold zah8 zq6 zq8 at h
 unfold okA okI
 simp at h
 omega
theorem zaJ8 {s:ByteArray} (h:zN6 s=true):s.size≤12:=by
 unfold zN6 at h
 simp at h
 omega
theorem zbd5:∀ {l:List Expr} {k:Expr},okL l=true→k ∈ l→okE k=true
 | x :: l,k,h,hk=>by
  simp only [okL,Bool.and_eq_true] at h
  rcases List.mem_cons.1 hk with rfl|hk
  ·exact h.1
  ·exact zbd5 h.2 hk
theorem zbT1 {e k:Expr} (hk:k ∈ e.kids):zh6 k+1≤zh6 e:=by
 have:∀ (ks:List Expr),k ∈ ks→zh6 k≤zk2 ks:=by
  intro ks
  induction ks with
  | nil=>intro h; cases h
  | cons x ks ih =>
   intro h
   rw [zam1]
   rcases List.mem_cons.1 h with rfl|h
   ·omega
   ·have:=ih h; omega
 have:=this e.kids hk
 rw [zay1 e]; omega
theorem zbv9:∀ (n:Nat) (dp:Int) (e:Expr),okE e=true→zg2 e≤24→1≤dp→dp+zh6 e≤5→7≤dp+n→∀ r,Src (encE e++r)→zg7 n dp (D (encE e++r))=some (e,D r)
 | 0,dp,e,_,_,h1,h2,h3,_,_=>by have:=zU5 e; omega
 | n+1,dp,e,hok,hn,h1,h2,h3,r,hr=>by
  show zl5 (zg7 n) dp (D (encE e++r))=_
  have hd:=zU5 e
  unfold zl5
  rw [if_neg (by simp; omega)]
  unfold zk3
  rw [zbd4,List.append_assoc] at hr ⊢
  by_cases c:e.kids.length=0
  ·obtain ⟨k0,k1,k2⟩:=(zaT3 c).1 hok
   have hk:okI e.k:=by rw [k0]; unfold okI; omega
   rw [zI2 hk hr,Option.bind_some]
   have hr1:=hr.right
   rw [if_pos k0,List.append_assoc] at hr1 ⊢
   obtain ⟨a1,a2⟩:=zaJ7 k2
   have hs:=zaJ8 k1
   simp only [decide_true,Bool.not_true,Bool.false_eq_true,if_false,k0,if_true]
   rw [zbv8 (by omega) hr1,Option.bind_some,zat9 a1 a2 hr1.right,Option.bind_some]
   have hkids:e.kids=[]:=List.eq_nil_of_length_eq_zero c
   obtain ⟨ek,ea,eks⟩:=e
   simp only at k0 hkids
   subst k0; subst hkids
   rfl
  ·obtain ⟨⟨k0,k1,k2⟩,k3⟩:=(zaT4 c).1 hok
   have hlen:=zz8 e.kids
   have hne:=zJ3 e
   have hk:okI e.k:=by unfold okI; omega
   rw [zI2 hk hr,Option.bind_some]
   have hr1:=hr.right
   have kn:¬ e.k=0:=by omega
   rw [if_neg kn,List.append_assoc] at hr1 ⊢
   simp only [decide_true,Bool.not_true,Bool.false_eq_true,if_false,kn,decide_false]
   rw [zaj8 (by omega) (by omega) (by decide) hr1,Option.bind_some]
   have hw:IntKind.i64.wrap (dp+1)=dp+1:=zc4 (by omega) (by omega)
   have key:=zaj9 (body:=zg0 (zg7 n) dp) (enc:=encE) (ok:=fun k=>okE k=true∧zg2 k≤24∧dp+1+zh6 k≤5)
    (fun pre=>(⟨e.k,⟨Expr.zero.atom.name,⟨Expr.zero.atom.amount.mode,Expr.zero.atom.amount.units⟩⟩,pre⟩:Expr)) (fun m x rest pre hx hsrc hm hm2 hp=>by
     unfold zg0
     rw [if_pos (by simp; omega)]
     simp only [hw]
     rw [zbv9 n (dp+1) x hx.1 hx.2.1 (by omega) hx.2.2 (by omega) rest hsrc,Option.bind_some,gdp (by omega),zc4 (by omega) (by omega)])
    (fun d q=>by unfold zg0; simp) e.kids [] r (fun k hk=>⟨zbd5 k3 hk,by have:=zay2 hk; omega,by have:=zbT1 hk; omega⟩) hr1.right (by simp; omega)
   show (zb4 _ ((e.kids.length:Int),D (e.kids.flatMap encE++r),(⟨e.k,⟨Expr.zero.atom.name,⟨Expr.zero.atom.amount.mode,Expr.zero.atom.amount.units⟩⟩,[]⟩:Expr))).bind _=_
   rw [key,Option.bind_some]
   unfold zr1
   obtain ⟨ek,ea,eks⟩:=e
   simp only at k2
   subst k2
   rfl
theorem zbK8 {e:Expr} (hok:okE e=true) (hf:fitE e=true) {r:List Int} (hr:Src (encE e++r)):ze2 1 (D (encE e++r))=some (e,D r):=by
 unfold fitE at hf
 simp only [Bool.and_eq_true,decide_eq_true_eq] at hf
 unfold ze2
 exact zbv9 _ 1 e hok hf.2 (by decide) (by omega) (by decide) r hr
structure OkQ (q:Queue):Prop where
 name:q.resource.name.size≤1024
 kind:okI q.resource.kind
 units:okI q.resource.units
 home:okI q.resource.home
 gen:okI q.gen
 lh:q.holds.length≤8
 lc:q.converts.length≤8
 lw:q.waits.length≤8
 h:∀ x ∈ q.holds,za9 x.proc=true∧okA x.amount
 c:∀ x ∈ q.converts,za9 x.proc=true∧okA x.amount∧x.priority=0∧x.passed=0
 w:∀ x ∈ q.waits,za9 x.proc=true∧okA x.amount∧okI x.priority∧okI x.passed
theorem zbK9 {q:Queue} (h:OkQ q) {r:List Int} (hr:Src (encQ q++r)):zd5 (D (encQ q++r))=some (q,D r):=by
 have lh:=h.lh; have lc:=h.lc; have lw:=h.lw
 unfold zd5
 unfold encQ at hr ⊢
 simp only [List.append_assoc] at hr ⊢
 rw [zbv8 h.name hr,Option.bind_some]
 replace hr:=hr.right
 rw [zI2 h.kind hr,Option.bind_some]
 replace hr:=hr.right
 rw [zI2 h.units hr,Option.bind_some]
 replace hr:=hr.right
 rw [zI2 h.home hr,Option.bind_some]
 replace hr:=hr.right
 rw [zI2 h.gen hr,Option.bind_some]
 replace hr:=hr.right
 rw [zaj8 (by omega) (by omega) (by decide) hr,Option.bind_some]
 replace hr:=hr.right
 have key3:=zaj9 (body:=zf5) (enc:=encH) (ok:=fun x=>za9 x.proc=true∧okA x.amount)
  (fun pre=>(⟨⟨q.resource.name,q.resource.kind,q.resource.units,q.resource.home⟩,pre,[],[],q.gen⟩:Queue)) (fun m x rest pre hx hsrc hm hm2 hp=>by
   unfold zf5
   unfold encH at hsrc ⊢
   rw [List.append_assoc] at hsrc ⊢
   rw [if_pos (by simp; omega),zaJ6 hx.1 hsrc,Option.bind_some,zat9 hx.2.1 hx.2.2 hsrc.right,Option.bind_some,gdp (by first|omega|(simp only; omega)),zc4 (by omega) (by omega)])
  (fun d q=>by unfold zf5; simp) q.holds [] _ h.h hr (by simp; omega)
 rw [key3,Option.bind_some]
 replace hr:=hr.right
 unfold zq5
 rw [zaj8 (by omega) (by omega) (by decide) hr,Option.bind_some]
 replace hr:=hr.right
 have key2:=zaj9 (body:=zf4) (enc:=encC) (ok:=fun x=>za9 x.proc=true∧okA x.amount∧x.priority=0∧x.passed=0)
  (fun pre=>(⟨⟨q.resource.name,q.resource.kind,q.resource.units,q.resource.home⟩,[]++q.holds,pre,[],q.gen⟩:Queue)) (fun m x rest pre hx hsrc hm hm2 hp=>by
   unfold zf4
   unfold encC at hsrc ⊢
   rw [List.append_assoc] at hsrc ⊢
   rw [if_pos (by simp; omega),zaJ6 hx.1 hsrc,Option.bind_some,zat9 hx.2.1.1 hx.2.1.2 hsrc.right,Option.bind_some,gdp (by first|omega|(simp only; omega)),zc4 (by omega) (by omega)]
   obtain ⟨xp,xa,xr,xs⟩:=x
   obtain ⟨_,_,x1,x2⟩:=hx
   simp only at x1 x2
   subst x1; subst x2
   rfl)
  (fun d q=>by unfold zf4; simp) q.converts [] _ h.c hr (by simp; omega)
 rw [key2,Option.bind_some]
 replace hr:=hr.right
 unfold zq4
 rw [zaj8 (by omega) (by omega) (by decide) hr,Option.bind_some]
 replace hr:=hr.right
 have key1:=zaj9 (body:=zf3) (enc:=encW) (ok:=fun x=>za9 x.proc=true∧okA x.amount∧okI x.priority∧okI x.passed)
  (fun pre=>(⟨⟨q.resource.name,q.resource.kind,q.resource.units,q.resource.home⟩,[]++q.holds,[]++q.converts,pre,q.gen⟩:Queue)) (fun m x rest pre hx hsrc hm hm2 hp=>by
   unfold zf3
   unfold encW at hsrc ⊢
   simp only [List.append_assoc] at hsrc ⊢
   rw [if_pos (by simp; omega),zaJ6 hx.1 hsrc,Option.bind_some,zat9 hx.2.1.1 hx.2.1.2 hsrc.right,Option.bind_some,zI2 hx.2.2.1 hsrc.right.right,Option.bind_some,zI2 hx.2.2.2 hsrc.right.right.right,Option.bind_some,gdp (by first|omega|(simp only; omega)),zc4 (by omega) (by omega)])
  (fun d q=>by unfold zf3; simp) q.waits [] _ h.w hr (by simp; omega)
 rw [key1,Option.bind_some]
 rfl
structure OkS (s:WaitState):Prop where
 lq:s.queues.length≤8
 ln:s.needs.length≤8
 q:∀ q ∈ s.queues,OkQ q
 n:∀ n ∈ s.needs,za9 n.proc=true∧okI n.gen∧okE n.expr=true∧fitE n.expr=true
theorem zba9 {s:WaitState} (h:OkS s) (hl:(encS s).length≤4294967296):zf1 (encS s)=some (if zab9 s=true then (s,0) else (WaitState.zero,2)):=by
 have lq:=h.lq; have ln:=h.ln
 have hr:Src (encS s++[]):=⟨(zbK7 s).app zy9.nil,by rw [List.append_nil]; omega⟩
 have he:encS s=encS s++[]:=(List.append_nil _).symm
 unfold zf1
 rw [he]
 unfold encS at hr ⊢
 simp only [List.append_assoc] at hr ⊢
 have c0:=zaj8 (lim:=8) (by omega) (by omega) (by decide) hr
 have z:(⟨{ waitstateReader.zero with rest:=encI (s.queues.length:Int)++(s.queues.flatMap encQ++(encI (s.needs.length:Int)++(s.needs.flatMap encN++[]))) }⟩:decoder)=D (encI (s.queues.length:Int)++(s.queues.flatMap encQ++(encI (s.needs.length:Int)++(s.needs.flatMap encN++[])))):=rfl
 rw [z,c0,Option.bind_some]
 replace hr:=hr.right
 have key2:=zaj9 (body:=zk9) (enc:=encQ) (ok:=OkQ) (fun pre=>(⟨pre,[]⟩:WaitState)) (fun m x rest pre hx hsrc hm hm2 hp=>by
   unfold zk9
   rw [if_pos (by simp; omega),zbK9 hx hsrc,Option.bind_some,gdp (by first|omega|(simp only; omega)),zc4 (by omega) (by omega)])
  (fun d q=>by unfold zk9; simp) s.queues [] _ h.q hr (by simp; omega)
 rw [key2,Option.bind_some]
 replace hr:=hr.right
 unfold zE6
 rw [zaj8 (by omega) (by omega) (by decide) hr,Option.bind_some]
 replace hr:=hr.right
 have key1:=zaj9 (body:=zk8) (enc:=encN) (ok:=fun n=>za9 n.proc=true∧okI n.gen∧okE n.expr=true∧fitE n.expr=true) (fun pre=>(⟨[]++s.queues,pre⟩:WaitState)) (fun m x rest pre hx hsrc hm hm2 hp=>by
   unfold zk8
   unfold encN at hsrc ⊢
   simp only [List.append_assoc] at hsrc ⊢
   rw [if_pos (by simp; omega),zaJ6 hx.1 hsrc,Option.bind_some,zI2 hx.2.1 hsrc.right,Option.bind_some,zbK8 hx.2.2.1 hx.2.2.2 hsrc.right.right,Option.bind_some,gdp (by first|omega|(simp only; omega)),zc4 (by omega) (by omega)])
  (fun d q=>by unfold zk8; simp) s.needs [] _ h.n hr (by simp; omega)
 rw [key1,Option.bind_some]
 unfold zE5
 simp only [decide_true,Bool.not_true,Bool.false_eq_true,if_false,List.nil_append,List.length_nil]
 rw [if_neg (by simp),zN0,Option.bind_some]
 cases zab9 s <;> rfl
end Ab
end Go.Proofs.YtebopmkhhppfaaaGreatDoor
namespace Go.Proofs.YtebopmkhhppfaaaGreatDoor
namespace Ab
set_option linter.unusedVariables false
set_option linter.unusedSimpArgs false
theorem zbo0 {q:Queue} (hs:SoundP q) {w:Wait} (hw:w ∈ ordQ q):za9 w.proc=true∧zb7 q.resource w.amount=true∧(zD6 w.proc q.holds).length+1≤8:=by
 have hvh:=(zaO1 _ _).1 hs.hv
 rcases List.mem_append.1 hw with h|h
 ·obtain ⟨h1,h2,_⟩:=hs.cg w h
  refine ⟨(hvh.2.2.1.each _ (zcu7 h1)).1,h2,?_⟩
  have:=zbR5 (zbR4 hs.hv) h1
  omega
 ·have h1:=hs.wg w h
  have h2:=((zbI7 _).1 hs.wv).2.1 w h
  refine ⟨?_,h1.1,?_⟩
  ·rw [← zaS4] at h2
   unfold zt6 at h2
   rw [zax9] at h2
   simp only [Bool.and_eq_true] at h2
   exact h2.1.1.1.1.1
  ·have:=hs.wl
   have h3:=zaN7 w.proc q.holds
   have:0 < q.waits.length:=List.length_pos_of_mem h
   omega
end Ab
end Go.Proofs.YtebopmkhhppfaaaGreatDoor
namespace Go.Proofs.YtebopmkhhppfaaaGreatDoor
namespace Ab
set_option linter.unusedVariables false
set_option linter.unusedSimpArgs false
theorem zbL0 {l:List Wait} (h:zah6 l=true) {w:Wait} (hw:w ∈ l):zj9 w=true:=by
 unfold zah6 at h
 simp only [Bool.and_eq_true,decide_eq_true_eq,List.all_eq_true,List.mem_range] at h
 obtain ⟨i,hi,e⟩:=List.getElem_of_mem hw
 have:=(h.2 i hi).1
 rw [List.getD_eq_getElem?_getD,List.getElem?_eq_getElem hi] at this
 simp only [Option.getD_some,e] at this
 exact this
theorem zbA6 {r:Resource} {a:Amount} (h:zb7 r a=true) (hs:r.units≤1073741824):okA a:=by
 rw [zaG8] at h
 unfold okA okI
 omega
theorem zbo1 {q:Queue} (h:zp3 q=true):OkQ q∧q.resource.name.size≤12:=by
 have hs:=((zba3 q).1 h).1
 have hl:=zao4 h
 have hr:=hs.res
 unfold resV at hr
 simp only [Bool.and_eq_true,decide_eq_true_eq] at hr
 have hn:=zaJ8 hr.1
 have hsh:=(zU4 _).1 hr.2.1
 have hu:q.resource.units≤1073741824:=by omega
 refine ⟨⟨by omega,by unfold okI; omega,by unfold okI; omega,by unfold okI; omega,hs.gen,hl.1,hl.2.1,hl.2.2.1,fun x hx=>?_,fun x hx=>?_,fun x hx=>?_⟩,hn⟩
 ·have:=((zaO1 _ _).1 hs.hv).2.2.1.each x hx
  exact ⟨this.1,zbA6 this.2 hu⟩
 ·have:=zbo0 hs (w:=x) (by unfold ordQ; exact List.mem_append.2 (.inl hx))
  have h2:=hs.cg x hx
  exact ⟨this.1,zbA6 this.2.1 hu,h2.2.2.2.2.1,h2.2.2.2.2.2⟩
 ·have:=zbo0 hs (w:=x) (by unfold ordQ; exact List.mem_append.2 (.inr hx))
  have h2:=zbL0 hs.wv hx
  unfold zj9 at h2
  simp only [Bool.and_eq_true,decide_eq_true_eq] at h2
  exact ⟨this.1,zbA6 this.2.1 hu,by unfold okI; omega,by unfold okI; omega⟩
theorem zbL1 {l:List Need} (h:zaB0 l=true) {n:Need} (hn:n ∈ l):za9 n.proc=true∧vE n.expr=true∧okI n.gen:=by
 unfold zaB0 at h
 rw [List.all_eq_true] at h
 obtain ⟨i,hi,e⟩:=List.getElem_of_mem hn
 have:=h i (List.mem_range.2 hi)
 rw [List.getD_eq_getElem?_getD,List.getElem?_eq_getElem hi] at this
 simp only [Option.getD_some,e] at this
 unfold zba7 at this
 simp only [Bool.and_eq_true,decide_eq_true_eq] at this
 exact ⟨this.1.1.1.1,this.1.1.1.2,this.1.1.2,this.1.2⟩
theorem zeF0 {e:Expr} (h:vE e=true):okE e=true∧fitE e=true:=by
 unfold vE at h
 rw [Bool.and_eq_true] at h
 refine ⟨?_,h.1⟩
 have h2:=h.2
 unfold zX0 at h2
 split at h2
 ·assumption
 ·cases h2
theorem zaI1 {s:WaitState} (h:zab9 s=true):OkS s∧∀ q ∈ s.queues,q.resource.name.size≤12:=by
 unfold zab9 at h
 simp only [Bool.and_eq_true,decide_eq_true_eq] at h
 obtain ⟨h1,h2,_⟩:=(zaO3 _).1 h.1.1.1
 refine ⟨⟨h1,h.1.1.2,fun q hq=>(zbo1 (h2 q hq)).1,fun n hn=>?_⟩,fun q hq=>(zbo1 (h2 q hq)).2⟩
 obtain ⟨a,b,c⟩:=zbL1 h.1.2 hn
 exact ⟨a,c,(zeF0 b).1,(zeF0 b).2⟩
theorem zJ4 {x:Int} (h:okI x):(encI x).length≤5:=(zaH8 4 x.toNat (by have:=h.1; have:=h.2; omega)).2
theorem zbO1 {s:ByteArray} (h:s.size≤1024):(encT s).length≤1029:=by
 have:=(zaH8 4 s.size (by omega)).2
 unfold encT
 rw [List.length_append,List.length_map,zaB4]; omega
theorem zbd6 {p:Proc} (h:za9 p=true):(encP p).length≤15:=by
 obtain ⟨a,b,c⟩:=zaB5 h
 have:=zJ4 a; have:=zJ4 b; have:=zJ4 c
 unfold encP
 simp only [List.length_append]; omega
theorem zbd7 {a:Amount} (h:okA a):(encA a).length≤10:=by
 have:=zJ4 h.1; have:=zJ4 h.2
 unfold encA
 simp only [List.length_append]; omega
theorem zaJ9 {α:Type} {f:α→List Int} {c:Nat}:∀ {l:List α},(∀ x ∈ l,(f x).length≤c)→(l.flatMap f).length≤c * l.length
 | [],_=>by simp
 | x :: l,h=>by
  have h1:=h x (.head _)
  have h2:=zaJ9 (l:=l) fun y hy=>h y (.tail _ hy)
  rw [List.flatMap_cons,List.length_append,List.length_cons,Nat.mul_add]; omega
theorem zbO2:∀ (n:Nat) (e:Expr),_root_.SizeOf.sizeOf e < n→okE e=true→zg2 e≤24→((encE e).length:Int)≤1100 * zg2 e
 | 0,_,h,_,_=>by omega
 | n+1,e,h,hok,hn=>by
  have hne:=zJ3 e
  have hl:=zz8 e.kids
  rw [zbd4,List.length_append]
  by_cases c:e.kids.length=0
  ·obtain ⟨k0,k1,k2⟩:=(zaT3 c).1 hok
   have:=zJ4 (x:=e.k) (by rw [k0]; unfold okI; omega)
   have:=zbO1 (s:=e.atom.name) (by have:=zaJ8 k1; omega)
   have:=zbd7 (zaJ7 k2)
   rw [if_pos k0,List.length_append]; omega
  ·obtain ⟨⟨k0,k1,k2⟩,k3⟩:=(zaT4 c).1 hok
   have e1:=zJ4 (x:=e.k) (by unfold okI; omega)
   have e2:=zJ4 (x:=(e.kids.length:Int)) (by unfold okI; omega)
   rw [if_neg (by omega),List.length_append]
   have key:∀ l:List Expr,(∀ k ∈ l,k ∈ e.kids)→((l.flatMap encE).length:Int)≤1100 * zp4 l:=by
    intro l
    induction l with
    | nil=>intro _; simp [zaA9]
    | cons k l ih =>
     intro hk
     have h1:=zbO2 n k (zac6 h (hk k (.head _))) (zbd5 k3 (hk k (.head _))) (by have:=zay2 (hk k (.head _)); omega)
     have h2:=ih fun y hy=>hk y (.tail _ hy)
     rw [List.flatMap_cons,List.length_append,zY8]; omega
   have:=key e.kids fun _ h=>h
   omega
theorem zcB1 {q:Queue} (h:OkQ q):(encQ q).length≤2000:=by
 have lh:=h.lh; have lc:=h.lc; have lw:=h.lw
 have a1:=zbO1 h.name; have a2:=zJ4 h.kind; have a3:=zJ4 h.units; have a4:=zJ4 h.home; have a5:=zJ4 h.gen
 have a6:=zJ4 (x:=(q.holds.length:Int)) (by unfold okI; omega)
 have a7:=zJ4 (x:=(q.converts.length:Int)) (by unfold okI; omega)
 have a8:=zJ4 (x:=(q.waits.length:Int)) (by unfold okI; omega)
 have b1:=zaJ9 (l:=q.holds) (f:=encH) (c:=25) fun x hx=>by
  have:=zbd6 (h.h x hx).1; have:=zbd7 (h.h x hx).2
  unfold encH; rw [List.length_append]; omega
 have b2:=zaJ9 (l:=q.converts) (f:=encC) (c:=25) fun x hx=>by
  have:=zbd6 (h.c x hx).1; have:=zbd7 (h.c x hx).2.1
  unfold encC; rw [List.length_append]; omega
 have b3:=zaJ9 (l:=q.waits) (f:=encW) (c:=35) fun x hx=>by
  have:=zbd6 (h.w x hx).1; have:=zbd7 (h.w x hx).2.1; have:=zJ4 (h.w x hx).2.2.1; have:=zJ4 (h.w x hx).2.2.2
  unfold encW; simp only [List.length_append]; omega
 unfold encQ
 simp only [List.length_append]; omega
theorem zcB2 {n:Need} (h:za9 n.proc=true∧okI n.gen∧okE n.expr=true∧fitE n.expr=true):(encN n).length≤30000:=by
 have h4:=h.2.2.2
 unfold fitE at h4
 simp only [Bool.and_eq_true,decide_eq_true_eq] at h4
 have:=zbd6 h.1; have:=zJ4 h.2.1; have:=zbO2 _ n.expr (Nat.lt_succ_self _) h.2.2.1 h4.2
 unfold encN
 simp only [List.length_append]; omega
theorem zbd8 {s:WaitState} (h:OkS s):(encS s).length≤300000:=by
 have lq:=h.lq; have ln:=h.ln
 have a1:=zJ4 (x:=(s.queues.length:Int)) (by unfold okI; omega)
 have a2:=zJ4 (x:=(s.needs.length:Int)) (by unfold okI; omega)
 have b1:=zaJ9 (l:=s.queues) (f:=encQ) (c:=2000) fun x hx=>zcB1 (h.q x hx)
 have b2:=zaJ9 (l:=s.needs) (f:=encN) (c:=30000) fun x hx=>zcB2 (h.n x hx)
 unfold encS
 simp only [List.length_append]; omega
end Ab
end Go.Proofs.YtebopmkhhppfaaaGreatDoor
namespace Go.Proofs.YtebopmkhhppfaaaGreatDoor
namespace Ab
set_option linter.unusedVariables false
set_option linter.unusedSimpArgs false
abbrev room (l e:List Int):Prop:=l.length+e.length≤4294960000
theorem room.left {l a b:List Int} (h:room l (a++b)):room l a:=by unfold room at *; rw [List.length_append] at h; omega
theorem room.right {l a b:List Int} (h:room l (a++b)):room (l++a) b:=by unfold room at *; rw [List.length_append] at h ⊢; omega
theorem zau0 {l:List Int} {x:Int} (h:okI x) (hr:room l (encI x)):zl8 l (IntKind.u64.wrap x)=some (l++encI x)∧zm8 l (IntKind.u64.wrap x)=some (l++encI x):=by
 unfold room at hr
 obtain ⟨h0,h1⟩:=h
 rw [zaf7 x h0 (by omega)]
 have:x=((x.toNat:Nat):Int):=(Int.toNat_of_nonneg h0).symm
 unfold encI
 rw [this,Int.toNat_natCast]
 exact ⟨zbv7 (by omega) (by omega),zaY1 (by omega) (by omega)⟩
theorem zQ1 {l:List Int} {x:Int} (h:okI x) (hr:room l (encI x)):zk4 l x=some (l++encI x):=by
 unfold zk4
 rw [(zau0 h hr).2]; rfl
theorem zaT6:∀ (xs:List Int) (l:List Int),(∀ x ∈ xs,okI x)→xs.length≤1000→room l (xs.flatMap encI)→zd7 l xs=some (l++xs.flatMap encI):=by
 intro xs l hx hlen hr
 unfold zd7
 have key:∀ k i (acc:List Int),i+k=xs.length→room acc ((xs.drop i).flatMap encI)→zb4 (zw3 xs) (acc,(i:Int))=some (acc++(xs.drop i).flatMap encI):=by
  intro k
  induction k with
  | zero =>
   intro i acc hi _
   have:i=xs.length:=by omega
   subst this
   rw [zd2,List.drop_length]
   unfold zw3
   rw [if_neg (by simp)]
   simp
  | succ k ih =>
   intro i acc hi hrm
   have hlt:i < xs.length:=by omega
   rw [zao8 xs i 0 hlt] at hrm ⊢
   rw [List.flatMap_cons] at hrm ⊢
   have hok:=hx _ (zY7 (z:=0) hlt)
   rw [zd2]
   unfold zw3
   simp only
   rw [if_pos (by simpa using hlt),gdp (by omega)]
   simp only [Int.toNat_natCast]
   rw [(zau0 hok hrm.left).1,Option.bind_some,ze6 i (by omega)]
   simp only
   have:=ih (i+1) (acc++encI (xs.getD i 0)) (by omega) hrm.right
   unfold zw3 at this
   rw [this,List.append_assoc]
 have:=key xs.length 0 l (by omega) hr
 rw [show ((l,0):List Int×Int)=(l,((0:Nat):Int)) from rfl,this]
 rfl
theorem zbo2 {l:List Int} {s:ByteArray} (h:s.size≤1024) (hr:room l (encT s)):zv2 l s=some (l++encT s)∧zz5 l s=some (l++encT s):=by
 have hr':=hr
 unfold room at hr'
 unfold zv2 zz5
 unfold encT at hr hr' ⊢
 rw [List.length_append,List.length_map,zaB4] at hr'
 rw [zaf7 (s.size:Int) (by omega) (by omega),zbG0 (by omega) (by omega),zbF9 (by omega) (by omega),Option.bind_some,gdp (by rw [List.length_append,zaB4]; omega),List.append_assoc]
 exact ⟨rfl,rfl⟩
theorem zam2 {l:List Int} {p:Proc} (h:za9 p=true) (hr:room l (encP p)):zq3 l p=some (l++encP p)∧zs1 l p=some (l++encP p):=by
 obtain ⟨k1,k2,k3⟩:=zaB5 h
 unfold encP at hr ⊢
 have r1:=hr.left.left
 have r2:=hr.left.right
 have r3:=hr.right
 rw [← List.append_assoc] at r3
 constructor
 ·unfold zq3
  have t1:∀ acc:List Int,room acc (encI p.site)→zp0 p (acc,0)=some (.inl (acc++encI p.site,1)):=fun acc ha=>by
   unfold zp0
   rw [if_pos (by simp),gdp (by simp)]
   show ((zl8 acc (IntKind.u64.wrap p.site)).bind fun v1=>some (Sum.inl (v1,IntKind.i64.wrap (0+1))))=_
   rw [(zau0 k1 ha).1]; rfl
  have t2:∀ acc:List Int,room acc (encI p.inc)→zp0 p (acc,1)=some (.inl (acc++encI p.inc,2)):=fun acc ha=>by
   unfold zp0
   rw [if_pos (by simp),gdp (by simp)]
   show ((zl8 acc (IntKind.u64.wrap p.inc)).bind fun v1=>some (Sum.inl (v1,IntKind.i64.wrap (1+1))))=_
   rw [(zau0 k2 ha).1]; rfl
  have t3:∀ acc:List Int,room acc (encI p.num)→zp0 p (acc,2)=some (.inl (acc++encI p.num,3)):=fun acc ha=>by
   unfold zp0
   rw [if_pos (by simp),gdp (by simp)]
   show ((zl8 acc (IntKind.u64.wrap p.num)).bind fun v1=>some (Sum.inl (v1,IntKind.i64.wrap (2+1))))=_
   rw [(zau0 k3 ha).1]; rfl
  have t4:∀ acc:List Int,zp0 p (acc,3)=some (.inr acc):=fun acc=>by
   unfold zp0
   rw [if_neg (by simp)]
  have hlen:l.length≤4294967296:=by unfold room at hr; omega
  rw [gdp hlen,if_neg (by simp [h]),zd2,t1 l r1]
  simp only
  rw [zd2,t2 _ r2]
  simp only
  rw [zd2,t3 _ r3]
  simp only
  rw [zd2,t4]
  simp only [List.append_assoc]
  rfl
 ·unfold zs1
  rw [zax9,if_neg (by simp [h]),(zau0 k1 r1).2,Option.bind_some,(zau0 k2 r2).2,Option.bind_some,(zau0 k3 r3).2]
  simp only [List.append_assoc]
  rfl
theorem zaB6 {l:List Int} {a:Amount} (h:okA a) (hr:room l (encA a)):zu2 l a=some (l++encA a):=by
 unfold zu2
 unfold encA at hr ⊢
 rw [zQ1 h.1 hr.left,Option.bind_some,zQ1 h.2 hr.right,List.append_assoc]
 rfl
theorem zaO9 {l:List Int} {a:Amount} (h:okA a) (hr:room l (encA a)):zd7 l [a.mode,a.units]=some (l++encA a):=by
 have:[a.mode,a.units].flatMap encI=encA a:=by simp [encA]
 rw [zaT6 _ l (fun x hx=>by
  simp only [List.mem_cons,List.not_mem_nil,or_false] at hx
  rcases hx with rfl|rfl
  ·exact h.1
  ·exact h.2) (by simp) (by rw [this]; exact hr),this]
theorem zau1 {l:List Int} {x:Int} (h:okI x) (hr:room l (encI x)):zd7 l [x]=some (l++encI x):=by
 have:[x].flatMap encI=encI x:=by simp
 rw [zaT6 _ l (fun y hy=>by rw [List.mem_singleton.1 hy]; exact h) (by simp) (by rw [this]; exact hr),this]
theorem zJ9 {α:Type} {body:List Int×Int→Option ((List Int×Int)⊕List Int)} {enc:α→List Int} {ok:α→Prop} (l:List α) (z:α) (hlen:l.length≤1000)
  (hs:∀ (i:Nat) acc,i < l.length→ok (l.getD i z)→room acc (enc (l.getD i z))→body (acc,(i:Int))=some (.inl (acc++enc (l.getD i z),((i+1:Nat):Int))))
  (he:∀ acc,body (acc,(l.length:Int))=some (.inr acc)) (hok:∀ x ∈ l,ok x) (acc:List Int) (hr:room acc (l.flatMap enc)):zb4 body (acc,0)=some (acc++l.flatMap enc):=by
 have key:∀ k i (acc:List Int),i+k=l.length→room acc ((l.drop i).flatMap enc)→zb4 body (acc,(i:Int))=some (acc++(l.drop i).flatMap enc):=by
  intro k
  induction k with
  | zero =>
   intro i acc hi _
   have:i=l.length:=by omega
   subst this
   rw [zd2,List.drop_length,he]
   simp
  | succ k ih =>
   intro i acc hi hrm
   have hlt:i < l.length:=by omega
   rw [zao8 l i z hlt] at hrm ⊢
   rw [List.flatMap_cons] at hrm ⊢
   rw [zd2,hs i acc hlt (hok _ (zY7 (z:=z) hlt)) hrm.left]
   simp only
   rw [ih (i+1) _ (by omega) hrm.right,List.append_assoc]
 exact key l.length 0 acc (by omega) hr
theorem zaT7:∀ (n:Nat) (e:Expr),_root_.SizeOf.sizeOf e < n→okE e=true→zg2 e≤24→∀ l,room l (encE e)→zu1 n l e=some (l++encE e)∧zQ5 n l e=some (l++encE e)
 | 0,_,h,_,_,_,_=>by omega
 | n+1,e,h,hok,hn,l,hr=>by
  show zE8 (zu1 n) l e=_∧zY5 (zQ5 n) l e=_
  unfold zE8 zY5
  have hl:=zz8 e.kids
  have hne:=zJ3 e
  rw [zbd4] at hr ⊢
  by_cases c:e.kids.length=0
  ·obtain ⟨k0,k1,k2⟩:=(zaT3 c).1 hok
   have hk:okI e.k:=by rw [k0]; unfold okI; omega
   rw [zau1 hk hr.left,zQ1 hk hr.left,Option.bind_some,Option.bind_some]
   have hr1:=hr.right
   rw [if_pos k0] at hr1 ⊢
   have ht:=zbo2 (by have:=zaJ8 k1; omega) hr1.left
   rw [if_pos (by simpa using k0),if_pos (by simpa using k0),ht.1,ht.2,Option.bind_some,Option.bind_some,zaO9 (zaJ7 k2) hr1.right,zaB6 (zaJ7 k2) hr1.right]
   simp only [List.append_assoc]
   exact ⟨rfl,rfl⟩
  ·obtain ⟨⟨k0,k1,k2⟩,k3⟩:=(zaT4 c).1 hok
   have hk:okI e.k:=by unfold okI; omega
   have kn:¬ e.k=0:=by omega
   rw [zau1 hk hr.left,zQ1 hk hr.left,Option.bind_some,Option.bind_some]
   have hr1:=hr.right
   rw [if_neg kn] at hr1 ⊢
   have hc:okI (e.kids.length:Int):=by unfold okI; omega
   rw [if_neg (by simpa using kn),if_neg (by simpa using kn),zau1 hc hr1.left,zQ1 hc hr1.left,Option.bind_some,Option.bind_some]
   have hF:∀ k ∈ e.kids,okE k=true∧zg2 k≤24∧_root_.SizeOf.sizeOf k < n:=fun k hk=>⟨zbd5 k3 hk,by have:=zay2 hk; omega,zac6 h hk⟩
   have w1:=zJ9 (body:=zC9 (zu1 n) e) (enc:=encE) (ok:=fun k=>okE k=true∧zg2 k≤24∧_root_.SizeOf.sizeOf k < n) e.kids Expr.zero (by omega) (fun i acc hi hx ha=>by
    unfold zC9
    simp only
    rw [if_pos (by simpa using hi),gdp (by omega)]
    simp only [Int.toNat_natCast]
    rw [(zaT7 n _ hx.2.2 hx.1 hx.2.1 acc ha).1,Option.bind_some,ze6 i (by omega)]) (fun acc=>by unfold zC9; simp) hF _ hr1.right
   have w2:=zJ9 (body:=zV5 (zQ5 n) e) (enc:=encE) (ok:=fun k=>okE k=true∧zg2 k≤24∧_root_.SizeOf.sizeOf k < n) e.kids Expr.zero (by omega) (fun i acc hi hx ha=>by
    unfold zV5
    simp only
    rw [if_pos (by simpa using hi),gdp (by omega)]
    simp only [Int.toNat_natCast]
    rw [(zaT7 n _ hx.2.2 hx.1 hx.2.1 acc ha).2,Option.bind_some,ze6 i (by omega)]) (fun acc=>by unfold zV5; simp) hF _ hr1.right
   rw [w1,w2]
   simp only [List.append_assoc]
   exact ⟨rfl,rfl⟩
end Ab
end Go.Proofs.YtebopmkhhppfaaaGreatDoor
namespace Go.Proofs.YtebopmkhhppfaaaGreatDoor
namespace Ab
set_option linter.unusedVariables false
set_option linter.unusedSimpArgs false
theorem zbT2 {q:Queue} (h:OkQ q) {l:List Int} (hr:room l (encQ q)):zo6 l q=some (l++encQ q):=by
 have lh:=h.lh; have lc:=h.lc; have lw:=h.lw
 have o1:okI (q.holds.length:Int):=by unfold okI; omega
 have o2:okI (q.converts.length:Int):=by unfold okI; omega
 have o3:okI (q.waits.length:Int):=by unfold okI; omega
 unfold zo6
 unfold encQ at hr ⊢
 rw [(zbo2 h.name hr.left).1,Option.bind_some]
 replace hr:=hr.right
 have e5:[q.resource.kind,q.resource.units,q.resource.home,q.gen,(q.holds.length:Int)].flatMap encI=encI q.resource.kind++(encI q.resource.units++(encI q.resource.home++(encI q.gen++encI (q.holds.length:Int)))):=by simp
 have hr5:room (l++encT q.resource.name) ([q.resource.kind,q.resource.units,q.resource.home,q.gen,(q.holds.length:Int)].flatMap encI):=by
  rw [e5]; unfold room at hr ⊢; simp only [List.length_append] at hr ⊢; omega
 rw [zaT6 _ _ (fun x hx=>by
  simp only [List.mem_cons,List.not_mem_nil,or_false] at hx
  rcases hx with rfl|rfl|rfl|rfl|rfl
  ·exact h.kind
  ·exact h.units
  ·exact h.home
  ·exact h.gen
  ·exact o1) (by simp) hr5,Option.bind_some,e5]
 replace hr:=hr.right.right.right.right.right
 have assoc:l++encT q.resource.name++encI q.resource.kind++encI q.resource.units++encI q.resource.home++encI q.gen++encI (q.holds.length:Int)=l++encT q.resource.name++(encI q.resource.kind++(encI q.resource.units++(encI q.resource.home++(encI q.gen++encI (q.holds.length:Int))))):=by simp only [List.append_assoc]
 rw [assoc] at hr
 have w3:=zJ9 (body:=zA7 q) (enc:=encH) (ok:=fun x=>za9 x.proc=true∧okA x.amount) q.holds Hold.zero (by omega) (fun i acc hi hx ha=>by
  unfold encH at ha ⊢
  unfold zA7
  simp only
  rw [if_pos (by simpa using hi),gdp (by omega)]
  simp only [Int.toNat_natCast]
  rw [(zam2 hx.1 ha.left).1,Option.bind_some,zaO9 hx.2 ha.right,Option.bind_some,ze6 i (by omega),List.append_assoc]) (fun acc=>by unfold zA7; simp) h.h _ hr.left
 rw [w3,Option.bind_some]
 replace hr:=hr.right
 unfold zJ1
 rw [zau1 o2 hr.left,Option.bind_some]
 replace hr:=hr.right
 have w2:=zJ9 (body:=zA6 q) (enc:=encC) (ok:=fun x=>za9 x.proc=true∧okA x.amount∧x.priority=0∧x.passed=0) q.converts Wait.zero (by omega) (fun i acc hi hx ha=>by
  unfold encC at ha ⊢
  unfold zA6
  simp only
  rw [if_pos (by simpa using hi),gdp (by omega)]
  simp only [Int.toNat_natCast]
  rw [(zam2 hx.1 ha.left).1,Option.bind_some,zaO9 hx.2.1 ha.right,Option.bind_some,ze6 i (by omega),List.append_assoc]) (fun acc=>by unfold zA6; simp) h.c _ hr.left
 rw [w2,Option.bind_some]
 replace hr:=hr.right
 unfold zJ0
 rw [zau1 o3 hr.left,Option.bind_some]
 replace hr:=hr.right
 have w1:=zJ9 (body:=zA5 q) (enc:=encW) (ok:=fun x=>za9 x.proc=true∧okA x.amount∧okI x.priority∧okI x.passed) q.waits Wait.zero (by omega) (fun i acc hi hx ha=>by
  have e4:∀ w:Wait,[w.amount.mode,w.amount.units,w.priority,w.passed].flatMap encI=encA w.amount++(encI w.priority++encI w.passed):=fun w=>by simp [encA]
  unfold encW at ha ⊢
  rw [List.append_assoc,List.append_assoc] at ha ⊢
  unfold zA5
  simp only
  rw [if_pos (by simpa using hi),gdp (by omega)]
  simp only [Int.toNat_natCast]
  rw [(zam2 hx.1 ha.left).1,Option.bind_some,zaT6 _ _ (fun y hy=>by
   simp only [List.mem_cons,List.not_mem_nil,or_false] at hy
   rcases hy with rfl|rfl|rfl|rfl
   ·exact hx.2.1.1
   ·exact hx.2.1.2
   ·exact hx.2.2.1
   ·exact hx.2.2.2) (by simp) (by rw [e4]; exact ha.right),Option.bind_some,ze6 i (by omega),e4]
  simp only [List.append_assoc]) (fun acc=>by unfold zA5; simp) h.w _ hr
 rw [w1,Option.bind_some]
 unfold zI9
 simp only [List.append_assoc]
theorem zao1 (s:WaitState):zl9 s=some (if zab9 s=true then (encS s,0) else ([],2)):=by
 unfold zl9
 rw [zN0,Option.bind_some]
 cases hv:zab9 s with
 | false=>rfl
 | true =>
  have h:=(zaI1 hv).1
  have lq:=h.lq; have ln:=h.ln
  have hlen:=zbd8 h
  have hr:room [] (encS s):=by unfold room; simp; omega
  simp only [Bool.not_true,Bool.false_eq_true,if_false,if_true]
  unfold encS at hr ⊢
  rw [zau1 (by unfold okI; omega) hr.left,Option.bind_some]
  replace hr:=hr.right
  have w2:=zJ9 (body:=zF0 s) (enc:=encQ) (ok:=OkQ) s.queues Queue.zero (by omega) (fun i acc hi hx ha=>by
   unfold zF0
   simp only
   rw [if_pos (by simpa using hi),gdp (by omega)]
   simp only [Int.toNat_natCast]
   rw [zbT2 hx ha,Option.bind_some,ze6 i (by omega)]) (fun acc=>by unfold zF0; simp) h.q _ hr.left
  rw [w2,Option.bind_some]
  replace hr:=hr.right
  unfold zN3
  rw [zau1 (by unfold okI; omega) hr.left,Option.bind_some]
  replace hr:=hr.right
  have w1:=zJ9 (body:=zE9 s) (enc:=encN) (ok:=fun n=>za9 n.proc=true∧okI n.gen∧okE n.expr=true∧fitE n.expr=true) s.needs Need.zero (by omega) (fun i acc hi hx ha=>by
   have hf:=hx.2.2.2
   unfold fitE at hf
   simp only [Bool.and_eq_true,decide_eq_true_eq] at hf
   unfold encN at ha ⊢
   unfold zE9
   simp only
   rw [if_pos (by simpa using hi),gdp (by omega)]
   simp only [Int.toNat_natCast]
   rw [(zam2 hx.1 ha.left).1,Option.bind_some,zau1 hx.2.1 ha.right.left,Option.bind_some]
   unfold zx0
   rw [(zaT7 _ _ (Nat.lt_succ_self _) hx.2.2.1 hf.2 _ ha.right.right).1,Option.bind_some,ze6 i (by omega)]
   simp only [List.append_assoc]) (fun acc=>by unfold zE9; simp) h.n _ hr
  rw [w1,Option.bind_some]
  unfold zN2
  simp only [List.append_assoc,List.nil_append]
theorem zbc1 (s:WaitState):zI1 s=some (if zab9 s=true then (encS s,0) else ([],2)):=by
 unfold zI1
 rw [zaH7,Option.bind_some]
 cases hv:zab9 s with
 | false=>rfl
 | true =>
  have h:=(zaI1 hv).1
  have lq:=h.lq; have ln:=h.ln
  have hlen:=zbd8 h
  have hr:room [] (encS s):=by unfold room; simp; omega
  simp only [Bool.not_true,Bool.false_eq_true,if_false,if_true]
  unfold encS at hr ⊢
  rw [zQ1 (by unfold okI; omega) hr.left,Option.bind_some]
  replace hr:=hr.right
  have w2:=zJ9 (body:=zQ0 s) (enc:=encQ) (ok:=OkQ) s.queues Queue.zero (by omega) (fun i acc hi hx ha=>by
   unfold zQ0
   simp only
   rw [if_pos (by simpa using hi),gdp (by omega)]
   simp only [Int.toNat_natCast]
   have lh:=hx.lh; have lc:=hx.lc; have lw:=hx.lw
   unfold encQ at ha ⊢
   rw [(zbo2 hx.name ha.left).2,Option.bind_some]
   replace ha:=ha.right
   rw [zQ1 hx.kind ha.left,Option.bind_some]
   replace ha:=ha.right
   rw [zQ1 hx.units ha.left,Option.bind_some]
   replace ha:=ha.right
   rw [zQ1 hx.home ha.left,Option.bind_some]
   replace ha:=ha.right
   rw [zQ1 hx.gen ha.left,Option.bind_some]
   replace ha:=ha.right
   rw [zQ1 (by unfold okI; omega) ha.left,Option.bind_some]
   replace ha:=ha.right
   have v5:=zJ9 (acc:=acc++encT (s.queues.getD i Queue.zero).resource.name++encI (s.queues.getD i Queue.zero).resource.kind++encI (s.queues.getD i Queue.zero).resource.units++encI (s.queues.getD i Queue.zero).resource.home++encI (s.queues.getD i Queue.zero).gen++encI ((s.queues.getD i Queue.zero).holds.length:Int)) (body:=zP9 s (acc,(i:Int))) (enc:=encH) (ok:=fun x=>za9 x.proc=true∧okA x.amount) (s.queues.getD i Queue.zero).holds Hold.zero (by omega) (fun j acc2 hj hy hb=>by
    unfold encH at hb ⊢
    unfold zP9
    simp only [Int.toNat_natCast]
    rw [if_pos (by simpa using hj),gdp (by omega),(zam2 hy.1 hb.left).2,Option.bind_some,gdp (by omega),zaB6 hy.2 hb.right,Option.bind_some,ze6 j (by omega),List.append_assoc]) (fun acc2=>by unfold zP9; simp) hx.h ha.left
   rw [v5,Option.bind_some]
   replace ha:=ha.right
   unfold zW9
   simp only [Int.toNat_natCast]
   rw [zQ1 (by unfold okI; omega) ha.left,Option.bind_some]
   replace ha:=ha.right
   have v4:=zJ9 (body:=zP8 s (acc,(i:Int))) (enc:=encC) (ok:=fun x=>za9 x.proc=true∧okA x.amount∧x.priority=0∧x.passed=0) (s.queues.getD i Queue.zero).converts Wait.zero (by omega) (fun j acc2 hj hy hb=>by
    unfold encC at hb ⊢
    unfold zP8
    simp only [Int.toNat_natCast]
    rw [if_pos (by simpa using hj),gdp (by omega),(zam2 hy.1 hb.left).2,Option.bind_some,gdp (by omega),zaB6 hy.2.1 hb.right,Option.bind_some,ze6 j (by omega),List.append_assoc]) (fun acc2=>by unfold zP8; simp) hx.c _ ha.left
   rw [v4,Option.bind_some]
   replace ha:=ha.right
   unfold zW8
   simp only [Int.toNat_natCast]
   rw [zQ1 (by unfold okI; omega) ha.left,Option.bind_some]
   replace ha:=ha.right
   have v3:=zJ9 (body:=zP7 s (acc,(i:Int))) (enc:=encW) (ok:=fun x=>za9 x.proc=true∧okA x.amount∧okI x.priority∧okI x.passed) (s.queues.getD i Queue.zero).waits Wait.zero (by omega) (fun j acc2 hj hy hb=>by
    unfold encW at hb ⊢
    rw [List.append_assoc,List.append_assoc] at hb ⊢
    unfold zP7
    simp only [Int.toNat_natCast]
    rw [if_pos (by simpa using hj),gdp (by omega),(zam2 hy.1 hb.left).2,Option.bind_some,zaB6 hy.2.1 hb.right.left,Option.bind_some,zQ1 hy.2.2.1 hb.right.right.left,Option.bind_some,zQ1 hy.2.2.2 hb.right.right.right,Option.bind_some,ze6 j (by omega)]
    simp only [List.append_assoc]) (fun acc2=>by unfold zP7; simp) hx.w _ ha
   rw [v3,Option.bind_some]
   unfold zW7
   simp only [ze6 i (show i < 4611686018427387904 by omega),List.append_assoc]) (fun acc=>by unfold zQ0; simp) h.q _ hr.left
  rw [w2,Option.bind_some]
  replace hr:=hr.right
  unfold zW6
  rw [zQ1 (by unfold okI; omega) hr.left,Option.bind_some]
  replace hr:=hr.right
  have w1:=zJ9 (body:=zP6 s) (enc:=encN) (ok:=fun n=>za9 n.proc=true∧okI n.gen∧okE n.expr=true∧fitE n.expr=true) s.needs Need.zero (by omega) (fun i acc hi hx ha=>by
   have hf:=hx.2.2.2
   unfold fitE at hf
   simp only [Bool.and_eq_true,decide_eq_true_eq] at hf
   unfold encN at ha ⊢
   unfold zP6
   simp only
   rw [if_pos (by simpa using hi),gdp (by omega)]
   simp only [Int.toNat_natCast]
   rw [(zam2 hx.1 ha.left).2,Option.bind_some,gdp (by omega),zQ1 hx.2.1 ha.right.left,Option.bind_some,gdp (by omega)]
   unfold zab0
   rw [(zaT7 _ _ (Nat.lt_succ_self _) hx.2.2.1 hf.2 _ ha.right.right).2,Option.bind_some,ze6 i (by omega)]
   simp only [List.append_assoc]) (fun acc=>by unfold zP6; simp) h.n _ hr
  rw [w1,Option.bind_some]
  unfold zW5
  simp only [List.append_assoc,List.nil_append]
end Ab
end Go.Proofs.YtebopmkhhppfaaaGreatDoor
