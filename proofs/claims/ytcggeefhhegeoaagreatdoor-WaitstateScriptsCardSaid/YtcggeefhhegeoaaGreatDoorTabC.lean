import Derived.Test.YtcggeefhhegeoaaGreatDoorWsD
import Derived.Test.YtcggeefhhegeoaaGreatDoorTabA
import Derived.Test.YtcggeefhhegeoaaGreatDoorHm31
namespace Go.Proofs.YtcggeefhhegeoaaGreatDoor
namespace Ab
set_option linter.unusedVariables false
set_option linter.unusedSimpArgs false
theorem zat8 (n:Int) (h0:0≤n) (h1:n < 2 ^ 64):IntKind.u64.wrap n=n:=by rw [IntKind.wrap_u64]; omega
theorem zcz8 {x:Int} (h0:0≤x) (h1:x < 18446744073709551616):zO0 .and .u64 x 127=x % 128:=bits_mask .u64 64 (by decide) zat8 7 (by decide) x h0 (by omega)
theorem zcb3 {x:Int} (h0:0≤x) (h1:x < 256):zO0 .and .u8 x 127=x % 128:=bits_mask .u8 8 (by decide) wraps_u8 7 (by decide) x h0 (by omega)
theorem zcq9 (k:IntKind) (x y:Int):zO0 .or k x y=zO0 .or k y x:=by simp only [zO0,BitVec.or_comm]
theorem zdd1 {y:Int} (h0:0≤y) (h1:y < 128):zO0 .or .u8 y 128=y+128:=by
 rw [zcq9]
 have:zO0 .or .u8 128 y=128+y:=bits_join .u8 8 (by decide) wraps_u8 7 128 y (by decide) (by decide) (by decide) h0 (by omega) (by omega)
 rw [this]; omega
theorem zcH1 (s:Nat) (hs:s≤28) {v c:Int} (hv0:0≤v) (hv:v < 2 ^ s) (hc0:0≤c) (hc:c < 128):zO0 .or .u64 v (IntKind.u64.wrap (c * 2 ^ s))=v+c * 2 ^ s:=by
 have hp:(2:Int) ^ s≤2 ^ 28:=by exact_mod_cast Nat.pow_le_pow_right (by decide) hs
 have hq:(0:Int) < 2 ^ s:=by exact_mod_cast Nat.two_pow_pos s
 have hm:c * 2 ^ s≤127 * 2 ^ 28:=Int.mul_le_mul (by omega) hp (by omega) (by decide)
 have hm0:0≤c * 2 ^ s:=Int.mul_nonneg hc0 (by omega)
 rw [zat8 _ hm0 (by omega),zcq9]
 have:zO0 .or .u64 (c * 2 ^ s) v=c * 2 ^ s+v:=bits_join .u64 64 (by decide) zat8 s _ v hm0 (Int.mul_emod_left _ _) (by omega) hv0 hv (by omega)
 rw [this]; omega
def encU (n:Nat):List Int:=if n < 128 then [(n:Int)] else ((n % 128+128:Nat):Int) :: encU (n / 128)
termination_by n
decreasing_by omega
theorem zaO1 {n:Nat} (h:n < 128):encU n=[(n:Int)]:=by rw [encU,if_pos h]
theorem zbi6 {n:Nat} (h:¬ n < 128):encU n=((n % 128+128:Nat):Int) :: encU (n / 128):=by rw [encU,if_neg h]
theorem zbg1:∀ (k n:Nat),n < 128 ^ (k+1)→1≤(encU n).length∧(encU n).length≤k+1
 | 0,n,h=>by rw [zaO1 (by omega)]; simp
 | k+1,n,h=>by
  by_cases c:n < 128
  ·rw [zaO1 c]; simp
  ·rw [zbi6 c]
   have:=zbg1 k (n / 128) (by rw [Nat.pow_succ] at h; omega)
   simp only [List.length_cons]; omega
theorem zbp2:∀ (n:Nat),zT7 (encU n):=by
 intro n
 induction n using Nat.strongRecOn with
 | _ n ih =>
  by_cases c:n < 128
  ·rw [zaO1 c]; intro x hx; rw [List.mem_singleton] at hx; omega
  ·rw [zbi6 c]
   intro x hx
   rcases List.mem_cons.1 hx with rfl|hx
   ·omega
   ·exact ih (n / 128) (by omega) x hx
theorem zbg2:∀ (k n:Nat) (l:List Int),n < 128 ^ (k+1)→k≤8→l.length+k≤4294967290→∃ y l',zc0 zr9 ((n:Int),l)=some (y,l')∧l'++[IntKind.u8.wrap y]=l++encU n∧l'.length≤l.length+k
 | 0,n,l,h,hk,hl=>by
  refine ⟨n,l,?_,?_,by omega⟩
  ·rw [zg1]; unfold zr9; rw [if_neg (by simp; omega)]
  ·rw [zaO1 (by omega),wraps_u8 _ (by omega) (by omega)]
 | k+1,n,l,h,hk,hl=>by
  by_cases c:n < 128
  ·refine ⟨n,l,?_,?_,by omega⟩
   ·rw [zg1]; unfold zr9; rw [if_neg (by simp; omega)]
   ·rw [zaO1 c,wraps_u8 _ (by omega) (by omega)]
  ·have hbig:n < 18446744073709551616:=by
    have:128 ^ (k+1+1)≤128 ^ 9:=Nat.pow_le_pow_right (by decide) (by omega)
    omega
   obtain ⟨y,l',h1,h2,h3⟩:=zbg2 k (n / 128) (l++[((n % 128+128:Nat):Int)]) (by rw [Nat.pow_succ] at h; omega) (by omega) (by simp; omega)
   refine ⟨y,l',?_,?_,by simp at h3; omega⟩
   ·rw [zg1]
    have hstep:zr9 ((n:Int),l)=some (.inl (((n / 128:Nat):Int),l++[((n % 128+128:Nat):Int)])):=by
     unfold zr9
     simp only
     rw [if_pos (by simp; omega),gdp (by omega),zcz8 (by omega) (by omega),wraps_u8 _ (by omega) (by omega),zdd1 (by omega) (by omega)]
     have:(n:Int).fdiv (2 ^ 7)=((n / 128:Nat):Int):=by rw [Int.fdiv_eq_ediv_of_nonneg _ (by decide)]; omega
     rw [this]
     have:(n:Int) % 128+128=((n % 128+128:Nat):Int):=by omega
     rw [this]
    rw [hstep]
    exact h1
   ·rw [h2,zbi6 c,List.append_assoc]; rfl
theorem zbz3 {n:Nat} {l:List Int} (hn:n < 128 ^ 9) (hl:l.length≤4294967000):zf0 l (n:Int)=some (l++encU n):=by
 obtain ⟨y,l',h1,h2,h3⟩:=zbg2 8 n l hn (by decide) (by omega)
 unfold zf0
 rw [gdp (by omega),h1,Option.bind_some]
 unfold zV1
 rw [gdp (by simp only; omega)]
 simp only [h2]
theorem zcr0 {n:Nat} {l:List Int} (hn:n < 128 ^ 9) (hl:l.length≤4294967000):zf9 l (n:Int)=some (l++encU n):=by
 rw [← zbz3 hn hl]; rfl
theorem zcz9 (g:Int×List Int):zN2 g=zr9 g:=by
 unfold zN2 zr9
 by_cases c:127 < g.1
 ·rw [if_pos (by simpa using c),if_pos (by simp; omega)]
 ·rw [if_neg (by simpa using c),if_neg (by simp; omega)]
theorem zcO0 (l:List Int) (x:Int) (hl:l.length≤4294967000):zd9 l x=zf0 l x:=by
 unfold zd9 zf0
 have hb:zN2=zr9:=funext zcz9
 have ht:l.take ((l.length:Int).toNat)=l:=by rw [Int.toNat_natCast,List.take_length]
 have g2:l.length+1≤4294967296:=by omega
 have g3:l.length≤4294967296:=by omega
 rw [ht,hb,gdp (by omega),gdp g2,gdp g3,zg1 zr9 (x,l)]
 by_cases c:127 < x
 ·rw [if_pos (by simpa using c)]
  have:zr9 (x,l)=some (.inl (x.fdiv (2 ^ 7),l++[zO0 .or .u8 (IntKind.u8.wrap (zO0 .and .u64 x 127)) 128])):=by
   unfold zr9
   rw [if_pos (by simp; omega),gdp (by simp only; omega)]
  rw [this]
  rfl
 ·rw [if_neg (by simpa using c)]
  have:zr9 (x,l)=some (.inr (x,l)):=by
   unfold zr9
   rw [if_neg (by simp; omega)]
  rw [this]
  show _=zV1 (x,l)
  unfold zV1
  rw [gdp g2]
theorem zcb4 {n:Nat} {l:List Int} (hn:n < 128 ^ 9) (hl:l.length≤4294967000):zd9 l (n:Int)=some (l++encU n):=by
 rw [zcO0 l _ hl,zbz3 hn hl]
theorem zcr1 {n:Nat} {l:List Int} (hn:n < 128 ^ 9) (hl:l.length≤4294967000):ze8 l (n:Int)=some (l++encU n):=by
 rw [← zcb4 hn hl]; rfl
theorem zcO1 {a rest:List Int} (ha:zT7 a):∀ (k m i:Nat) (v:Int),i+k=4→m < 128 ^ (k+1)→a.drop i=encU m++rest→(i=0∨1≤m)→0≤v→v < 2 ^ (7 * i) →
  zc0 (zX4 a) (v,(i:Int))=some (.inr (v+(m:Int) * 2 ^ (7 * i),((i+(encU m).length:Nat):Int),0)):=by
 have step:∀ (m i:Nat) (v:Int),i≤4→a.drop i=encU m++rest→0≤v→v < 2 ^ (7 * i)→(m < 128→(i=0∨1≤m)→zX4 a (v,(i:Int))=some (.inr (.inr (v+(m:Int) * 2 ^ (7 * i),((i+1:Nat):Int),0)))) ∧
   (¬ m < 128→zX4 a (v,(i:Int))=some (.inl (v+((m % 128:Nat):Int) * 2 ^ (7 * i),((i+1:Nat):Int)))):=by
  intro m i v hi hd h0 h1
  have hne:encU m≠[]:=by
   rw [encU]; split <;> simp
  have hlen:i < a.length:=by
   have:=congrArg List.length hd
   rw [List.length_drop,List.length_append] at this
   have:0 < (encU m).length:=List.length_pos_iff.2 hne
   omega
  have hw:IntKind.i64.wrap (7 * (i:Int))=((7 * i:Nat):Int):=by rw [zf6 (by omega) (by omega)]; omega
  have hw2:(IntKind.i64.wrap (7 * (i:Int))).toNat=7 * i:=by rw [hw]; rfl
  have hmin:Nat.min (7 * i) IntKind.u64.bits=7 * i:=Nat.min_eq_left (by show 7 * i≤64; omega)
  have hget:∀ c t,a.drop i=c :: t→a.getD ((i:Int).toNat) 0=c:=fun c t e=>by
   have:=zat2 a i 0 hlen
   rw [e] at this
   exact (List.cons.inj this).1.symm
  unfold zX4
  simp only
  rw [if_pos (by simp; omega),if_neg (by simp; omega),gdp (by omega),if_neg (by simp; omega),gdp (by omega),zc4 i (by omega),hw2,hmin]
  constructor
  ·intro c hm
   have hc:=hget (m:Int) rest (by rw [hd,zaO1 c]; rfl)
   rw [hc,(zdd0 (m:Int) (by omega) (by omega)).2 (by omega),zcb3 (by omega) (by omega),zat8 ((m:Int) % 128) (by omega) (by omega),zcH1 (7 * i) (by omega) h0 h1 (by omega) (by omega)]
   have hmm:(m:Int) % 128=m:=by omega
   have h2:(decide ((m:Int)=0)&&decide ((0:Int) < (i:Int)))=false:=by
    rw [Bool.eq_false_iff]; simp; omega
   rw [hmm,h2]
   simp
  ·intro c
   have hc:=hget ((m % 128+128:Nat):Int) (encU (m / 128)++rest) (by rw [hd,zbi6 c]; rfl)
   have hb:¬ zO0 .and .u8 ((m % 128+128:Nat):Int) 128=0:=fun e=>by have:=(zdd0 _ (by omega) (by omega)).1 e; omega
   rw [hc,zcb3 (by omega) (by omega),zat8 (((m % 128+128:Nat):Int) % 128) (by omega) (by omega),zcH1 (7 * i) (by omega) h0 h1 (by omega) (by omega)]
   have hmm:((m % 128+128:Nat):Int) % 128=((m % 128:Nat):Int):=by omega
   rw [hmm,if_pos (by simpa using hb)]
 intro k
 induction k with
 | zero =>
  intro m i v hi hm hd h0 hv0 hv
  rw [zg1,(step m i v (by omega) hd hv0 hv).1 (by omega) h0,zaO1 (by omega)]
  rfl
 | succ k ih =>
  intro m i v hi hm hd h0 hv0 hv
  by_cases c:m < 128
  ·rw [zg1,(step m i v (by omega) hd hv0 hv).1 c h0,zaO1 c]
   rfl
  ·rw [zg1,(step m i v (by omega) hd hv0 hv).2 c]
   have hp:(2:Int) ^ (7 * (i+1))=128 * 2 ^ (7 * i):=by rw [Nat.mul_add,Int.pow_add]; omega
   have hq:(0:Int) < 2 ^ (7 * i):=by exact_mod_cast Nat.two_pow_pos _
   have hm1:((m % 128:Nat):Int) * 2 ^ (7 * i)≤127 * 2 ^ (7 * i):=Int.mul_le_mul_of_nonneg_right (by omega) (by omega)
   have hm0:0≤((m % 128:Nat):Int) * 2 ^ (7 * i):=Int.mul_nonneg (by omega) (by omega)
   have:=ih (m / 128) (i+1) (v+((m % 128:Nat):Int) * 2 ^ (7 * i)) (by omega) (by rw [Nat.pow_succ] at hm; omega) (by
    rw [← List.drop_drop,hd,zbi6 c]; rfl) (.inr (by omega)) (by omega) (by rw [hp]; omega)
   simp only
   rw [this,zbi6 c,hp]
   have e1:(m:Int)=128 * ((m / 128:Nat):Int)+((m % 128:Nat):Int):=by omega
   have e2:v+((m % 128:Nat):Int) * 2 ^ (7 * i)+((m / 128:Nat):Int) * (128 * 2 ^ (7 * i))=v+(m:Int) * 2 ^ (7 * i):=by
    rw [e1,Int.add_mul,Int.mul_assoc 128,Int.mul_left_comm]
    omega
   rw [e2]
   simp only [List.length_cons]
   rw [show i+1+(encU (m / 128)).length=i+((encU (m / 128)).length+1) by omega]
theorem zcr2 {n:Nat} {rest:List Int} (hn:n < 128 ^ 5) (hr:zT7 rest):zk1 (encU n++rest)=some ((n:Int),((encU n).length:Int),0):=by
 have hb:zT7 (encU n++rest):=fun x hx=>by
  rcases List.mem_append.1 hx with h|h
  ·exact zbp2 n x h
  ·exact hr x h
 unfold zk1
 have:=zcO1 (rest:=rest) hb 4 n 0 0 rfl hn rfl (.inl rfl) (Int.le_refl _) (by decide)
 rw [show ((0,0):Int×Int)=(0,((0:Nat):Int)) from rfl,this]
 simp
def encI (x:Int):List Int:=encU x.toNat
def encT (s:ByteArray):List Int:=encU s.size++s.toList.map fun b=>(b.toNat:Int)
def encP (p:Proc):List Int:=encI p.site++encI p.inc++encI p.num
def encA (a:Amount):List Int:=encI a.mode++encI a.units
mutual
def encE:Expr→List Int
 | ⟨k,a,ks⟩=>encI k++(if k=0 then encT a.name++encA a.amount else encI (ks.length:Int)++zcr3 ks)
def zcr3:List Expr→List Int
 | []=>[]
 | k :: l=>encE k++zcr3 l
end
theorem zbH5 (e:Expr):encE e=encI e.k++(if e.k=0 then encT e.atom.name++encA e.atom.amount else encI (e.kids.length:Int)++e.kids.flatMap encE):=by
 have:∀ l,zcr3 l=l.flatMap encE:=by
  intro l
  induction l with
  | nil=>rw [zcr3]; rfl
  | cons x l ih=>rw [zcr3,ih]; rfl
 cases e
 rw [encE,this]
def encH (h:Hold):List Int:=encP h.proc++encA h.amount
def encC (w:Wait):List Int:=encP w.proc++encA w.amount
def encW (w:Wait):List Int:=encP w.proc++encA w.amount++encI w.priority++encI w.passed
def encQ (q:Queue):List Int:=encT q.resource.name++(encI q.resource.kind++(encI q.resource.units++(encI q.resource.home++(encI q.gen++(encI (q.holds.length:Int)++(q.holds.flatMap encH++(encI (q.converts.length:Int)++(q.converts.flatMap encC++(encI (q.waits.length:Int)++q.waits.flatMap encW)))))))))
def encN (n:Need):List Int:=encP n.proc++(encI n.gen++encE n.expr)
def encS (s:WaitState):List Int:=encI (s.queues.length:Int)++(s.queues.flatMap encQ++(encI (s.needs.length:Int)++s.needs.flatMap encN))
theorem zT7.app {a b:List Int} (ha:zT7 a) (hb:zT7 b):zT7 (a++b):=fun x hx=>by
 rcases List.mem_append.1 hx with h|h
 ·exact ha x h
 ·exact hb x h
theorem zT7.nil:zT7 []:=fun x hx=>by cases hx
theorem zT7.flat {α:Type} {f:α→List Int} (h:∀ x,zT7 (f x)) (l:List α):zT7 (l.flatMap f):=fun x hx=>by
 obtain ⟨a,_,ha⟩:=List.mem_flatMap.1 hx
 exact h a x ha
theorem zA4 (x:Int):zT7 (encI x):=zbp2 _
theorem zbR4 (s:ByteArray):zT7 (encT s):=(zbp2 _).app fun x hx=>by
 obtain ⟨b,_,rfl⟩:=List.mem_map.1 hx
 have:=b.toNat_lt
 omega
theorem zaW9 (p:Proc):zT7 (encP p):=((zA4 _).app (zA4 _)).app (zA4 _)
theorem zaX0 (a:Amount):zT7 (encA a):=(zA4 _).app (zA4 _)
theorem zbg3:∀ (n:Nat) (e:Expr),_root_.SizeOf.sizeOf e < n→zT7 (encE e)
 | 0,_,h=>by omega
 | n+1,e,h=>by
  rw [zbH5]
  refine (zA4 _).app ?_
  split
  ·exact (zbR4 _).app (zaX0 _)
  ·refine (zA4 _).app fun x hx=>?_
   obtain ⟨k,hk,hx⟩:=List.mem_flatMap.1 hx
   exact zbg3 n k (zah6 h hk) x hx
theorem zcA0 (e:Expr):zT7 (encE e):=zbg3 _ e (Nat.lt_succ_self _)
theorem zcA1 (h:Hold):zT7 (encH h):=(zaW9 _).app (zaX0 _)
theorem zcA2 (h:Wait):zT7 (encC h):=(zaW9 _).app (zaX0 _)
theorem zcA3 (h:Wait):zT7 (encW h):=(((zaW9 _).app (zaX0 _)).app (zA4 _)).app (zA4 _)
theorem zcA4 (q:Queue):zT7 (encQ q) :=
 (zbR4 _).app ((zA4 _).app ((zA4 _).app ((zA4 _).app ((zA4 _).app ((zA4 _).app ((zT7.flat zcA1 _).app ((zA4 _).app ((zT7.flat zcA2 _).app ((zA4 _).app (zT7.flat zcA3 _))))))))))
theorem zcA5 (n:Need):zT7 (encN n):=(zaW9 _).app ((zA4 _).app (zcA0 _))
theorem zcA6 (s:WaitState):zT7 (encS s):=(zA4 _).app ((zT7.flat zcA4 _).app ((zA4 _).app (zT7.flat zcA5 _)))
abbrev D (r:List Int):decoder:=⟨⟨r,0⟩⟩
def okI (x:Int):Prop:=0≤x∧x≤1073741824
theorem Src.right {a b:List Int} (h:Src (a++b)):Src b:=⟨fun x hx=>h.bytes x (List.mem_append.2 (.inr hx)),by have:=h.len; rw [List.length_append] at this; omega⟩
theorem zbi7 {x:Int} (h:okI x) {r:List Int} (hr:Src (encI x++r)):zk1 (encI x++r)=some (x,((encI x).length:Int),0):=by
 have hb:=hr.right.bytes
 unfold encI
 obtain ⟨h0,h1⟩:=h
 rw [zcr2 (by omega) hb]
 rw [Int.toNat_of_nonneg h0]
theorem zbD4 {lim over x:Int} (h0:0≤x) (h1:x≤lim) (h2:lim≤1073741824) {r:List Int} (hr:Src (encI x++r)):zb9 lim over (D (encI x++r))=some (x,D r):=by
 unfold zb9
 rw [if_neg (by simp),zbi7 ⟨h0,by omega⟩ hr,Option.bind_some,zat8 lim (by omega) (by omega),if_neg (by simp; omega)]
 unfold zD8
 rw [if_neg (by simp),gdp (by simp; omega)]
 simp only [zf6 (x:=x) (by omega) (by omega),Int.toNat_natCast,List.drop_left]
theorem zaA3 {lim x:Int} (h0:0≤x) (h1:x≤lim) (h2:lim≤1073741824) {r:List Int} (hr:Src (encI x++r)):zc3 lim (D (encI x++r))=some (x,D r):=by
 unfold zc3
 rw [zbD4 h0 h1 h2 hr]; rfl
theorem zQ3 {x:Int} (h:okI x) {r:List Int} (hr:Src (encI x++r)):zb7 (D (encI x++r))=some (x,D r):=by
 unfold zb7
 rw [zbD4 h.1 h.2 (by decide) hr]; rfl
theorem zbW2 (s:ByteArray):zaU3 (s.toList.map fun b=>(b.toNat:Int))=s:=by
 have:(s.toList.map fun b=>(b.toNat:Int)).map (fun n=>UInt8.ofNat n.toNat)=s.data.toList:=by
  rw [List.map_map,ByteArray.toList_eq]
  conv=>rhs; rw [← List.map_id s.data.toList]
  refine List.map_congr_left fun b _=>?_
  simp
 unfold zaU3
 rw [this]
theorem zaX1 (s:ByteArray):s.toList.length=s.size:=by rw [ByteArray.toList_eq]; rfl
theorem zcb5 {s:ByteArray} (h:s.size≤1024) {r:List Int} (hr:Src (encT s++r)):zc9 (D (encT s++r))=some (s,D r):=by
 have hl:(s.toList.map fun b=>(b.toNat:Int)).length=s.size:=by rw [List.length_map,zaX1]
 have hlen:=zbg1 4 s.size (by omega)
 have hr2:=hr.len
 have hr3:(encT s++r).length=(encU s.size).length+(s.size+r.length):=by unfold encT; rw [List.length_append,List.length_append,hl]; omega
 have ht:zo8 (encT s++r)=some (s,((encT s).length:Int),0):=by
  unfold zo8
  unfold encT at hr ⊢
  rw [List.append_assoc] at hr ⊢
  rw [zcr2 (by omega) hr.right.bytes,Option.bind_some]
  rw [if_neg (by simp),if_neg (by simp; omega)]
  simp only
  have w1:IntKind.i64.wrap (s.size:Int)=(s.size:Int):=zf6 (by omega) (by omega)
  have w2:IntKind.i64.wrap (((encU s.size).length:Int)+(s.size:Int))=((encU s.size).length+s.size:Nat):=by rw [zf6 (by omega) (by omega)]; omega
  have e1:(encU s.size++((s.toList.map fun b=>(b.toNat:Int))++r)).length=(encU s.size).length+(s.size+r.length):=by rw [List.length_append,List.length_append,hl]
  rw [w1,w2,e1,zf6 (by omega) (by omega),if_neg (by simp; omega),gdp (by omega)]
  simp only [Int.toNat_natCast]
  rw [List.take_append,List.take_of_length_le (by omega),show (encU s.size).length+s.size - (encU s.size).length=s.size by omega,List.drop_left,List.take_append,List.take_of_length_le (by omega),hl,Nat.sub_self,List.take_zero,List.append_nil,zbW2]
  congr 3
  rw [List.length_append,hl]
 unfold zc9
 rw [if_neg (by simp),ht,Option.bind_some,if_neg (by simp),gdp (by simp; omega)]
 simp only [Int.toNat_natCast,List.drop_left]
theorem zaX2 {p:Proc} (h:zb6 p=true):okI p.site∧okI p.inc∧okI p.num:=by
 unfold zb6 zK8 at h
 simp only [Bool.and_eq_true,decide_eq_true_eq] at h
 unfold okI
 omega
theorem zbi8 {p:Proc} (h:zb6 p=true) {r:List Int} (hr:Src (encP p++r)):zd5 (D (encP p++r))=some (p,D r):=by
 obtain ⟨k1,k2,k3⟩:=zaX2 h
 have hlen:∀ x:Int,okI x→(encI x).length≤5:=fun x hx=>(zbg1 4 x.toNat (by have:=hx.1; have:=hx.2; omega)).2
 have l1:=hlen _ k1
 have l2:=hlen _ k2
 have l3:=hlen _ k3
 have hr0:=hr.len
 have ht:zq8 (encP p++r)=some (p,((encP p).length:Int),0):=by
  have hr':=hr
  unfold encP at hr' ⊢
  rw [List.append_assoc,List.append_assoc] at hr' ⊢
  have s2:=hr'.right
  have s3:=s2.right
  have hn:∀ x:Int,okI x→IntKind.i64.wrap (if 1073741824 < x then 1073741824 else x)=x:=fun x hx=>by rw [if_neg (by have:=hx.2; omega),zf6 (by have:=hx.1; omega) (by have:=hx.2; omega)]
  have hlen0:(encI p.site++(encI p.inc++(encI p.num++r))).length=(encI p.site).length+((encI p.inc).length+((encI p.num).length+r.length)):=by simp
  have hrl:=hr.right.len
  have t1:zC9 (encI p.site++(encI p.inc++(encI p.num++r))) (0,0,Arr.rep 3 0)=some (.inl (((encI p.site).length:Int),1,Arr.put (Arr.rep 3 0) 0 p.site)):=by
   unfold zC9
   simp only [Int.toNat_zero,List.drop_zero]
   rw [if_pos (by decide),gdp (by omega),zbi7 k1 hr',Option.bind_some,if_neg (by simp),gdp (by decide)]
   simp only [hn _ k1]
   rw [zf6 (by omega) (by omega),Int.zero_add]
   rfl
  have t2:∀ z,zC9 (encI p.site++(encI p.inc++(encI p.num++r))) (((encI p.site).length:Int),1,z)=some (.inl (((encI p.site).length:Int)+((encI p.inc).length:Int),2,Arr.put z 1 p.inc)):=by
   intro z
   unfold zC9
   simp only [Int.toNat_natCast,List.drop_left]
   rw [if_pos (by simp),gdp (by omega),zbi7 k2 s2,Option.bind_some,if_neg (by simp),gdp (by decide)]
   simp only [hn _ k2]
   rw [zf6 (by omega) (by omega)]
   rfl
  have t3:∀ z,zC9 (encI p.site++(encI p.inc++(encI p.num++r))) (((encI p.site).length:Int)+((encI p.inc).length:Int),2,z)=some (.inl (((encI p.site).length:Int)+((encI p.inc).length:Int)+((encI p.num).length:Int),3,Arr.put z 2 p.num)):=by
   intro z
   unfold zC9
   have hd:(encI p.site++(encI p.inc++(encI p.num++r))).drop (((encI p.site).length:Int)+((encI p.inc).length:Int)).toNat=encI p.num++r:=by
    rw [show (((encI p.site).length:Int)+((encI p.inc).length:Int)).toNat=(encI p.site).length+(encI p.inc).length by omega,← List.drop_drop,List.drop_left,List.drop_left]
   simp only [hd]
   rw [if_pos (by simp),gdp (by omega),zbi7 k3 s3,Option.bind_some,if_neg (by simp),gdp (by decide)]
   simp only [hn _ k3]
   rw [zf6 (by omega) (by omega)]
   rfl
  have t4:∀ (i:Int) z,zC9 (encI p.site++(encI p.inc++(encI p.num++r))) (i,3,z)=some (.inr (.inl (i,z))):=fun i z=>by
   unfold zC9
   rw [if_neg (by simp)]
  unfold zq8
  rw [zg1,t1]
  simp only
  rw [zg1,t2]
  simp only
  rw [zg1,t3]
  simp only
  rw [zg1,t4]
  simp only [Option.bind_some]
  unfold zaF2
  have g:∀ x y z:Int,(⟨Arr.get (Arr.put (Arr.put (Arr.put (Arr.rep 3 0) 0 x) 1 y) 2 z) 0 0,Arr.get (Arr.put (Arr.put (Arr.put (Arr.rep 3 0) 0 x) 1 y) 2 z) 1 0,Arr.get (Arr.put (Arr.put (Arr.put (Arr.rep 3 0) 0 x) 1 y) 2 z) 2 0⟩:Proc)=⟨x,y,z⟩:=fun _ _ _=>rfl
  simp only [g]
  rw [if_neg (by simpa using h)]
  congr 3
  simp only [List.length_append]; omega
 unfold zd5
 have:(encP p++r).length=(encP p).length+r.length:=List.length_append
 rw [if_neg (by simp),ht,Option.bind_some,if_neg (by simp),gdp (by simp only; omega)]
 simp only [Int.toNat_natCast,List.drop_left]
theorem zaO2 {a:Amount} (h1:okI a.mode) (h2:okI a.units) {r:List Int} (hr:Src (encA a++r)):zc7 (D (encA a++r))=some (a,D r):=by
 unfold zc7
 unfold encA at hr ⊢
 rw [List.append_assoc] at hr ⊢
 rw [zQ3 h1 hr,Option.bind_some,zQ3 h2 hr.right]
 rfl
theorem zaA4 {α Q:Type} {body:Int×decoder×Q→Option ((Int×decoder×Q)⊕(decoder×Q))} {enc:α→List Int} {ok:α→Prop} (R:List α→Q)
  (hs:∀ (n:Int) x rest pre,ok x→Src (enc x++rest)→0 < n→n≤100→pre.length≤100→body (n,D (enc x++rest),R pre)=some (.inl (n - 1,D rest,R (pre++[x]))))
  (he:∀ d q,body (0,d,q)=some (.inr (d,q))):∀ (l pre:List α) (rest:List Int),(∀ x ∈ l,ok x)→Src (l.flatMap enc++rest)→pre.length+l.length≤100 →
   zc0 body ((l.length:Int),D (l.flatMap enc++rest),R pre)=some (D rest,R (pre++l))
 | [],pre,rest,_,_,_=>by
  have e:body ((([]:List α).length:Int),D (([]:List α).flatMap enc++rest),R pre)=some (.inr (D rest,R pre)):=he _ _
  rw [zg1,e,List.append_nil]
 | x :: l,pre,rest,h,hr,hl=>by
  rw [List.flatMap_cons,List.append_assoc] at hr ⊢
  simp only [List.length_cons] at hl ⊢
  rw [zg1,hs _ x _ pre (h x (.head _)) hr (by omega) (by omega) (by omega)]
  simp only
  have:=zaA4 R hs he l (pre++[x]) rest (fun y hy=>h y (.tail _ hy)) hr.right (by simp; omega)
  rw [show (((l.length+1:Nat):Int) - 1)=(l.length:Int) by omega,this,List.append_assoc]
  rfl
def okA (a:Amount):Prop:=okI a.mode∧okI a.units
theorem zbi9 {a:Amount} (h:zax5 a=true):okA a:=by
 unfold zax5 zr2 zx6 at h
 unfold okA okI
 simp at h
 omega
theorem zbj0 {s:ByteArray} (h:zW0 s=true):s.size≤12:=by
 unfold zW0 at h
 simp at h
 omega
theorem zbt6:∀ {l:List Expr} {k:Expr},okL l=true→k ∈ l→okE k=true
 | x :: l,k,h,hk=>by
  simp only [okL,Bool.and_eq_true] at h
  rcases List.mem_cons.1 hk with rfl|hk
  ·exact h.1
  ·exact zbt6 h.2 hk
theorem zcO2 {e k:Expr} (hk:k ∈ e.kids):zr7 k+1≤zr7 e:=by
 have:∀ (ks:List Expr),k ∈ ks→zr7 k≤zt9 ks:=by
  intro ks
  induction ks with
  | nil=>intro h; cases h
  | cons x ks ih =>
   intro h
   rw [zaE7]
   rcases List.mem_cons.1 h with rfl|h
   ·omega
   ·have:=ih h; omega
 have:=this e.kids hk
 rw [zaT6 e]; omega
theorem zcb6:∀ (n:Nat) (dp:Int) (e:Expr),okE e=true→zn0 e≤24→1≤dp→dp+zr7 e≤5→7≤dp+n→∀ r,Src (encE e++r)→zv0 n dp (D (encE e++r))=some (e,D r)
 | 0,dp,e,_,_,h1,h2,h3,_,_=>by have:=zag6 e; omega
 | n+1,dp,e,hok,hn,h1,h2,h3,r,hr=>by
  show zA7 (zv0 n) dp (D (encE e++r))=_
  have hd:=zag6 e
  unfold zA7
  rw [if_neg (by simp; omega)]
  unfold zA1
  rw [zbH5,List.append_assoc] at hr ⊢
  by_cases c:e.kids.length=0
  ·obtain ⟨k0,k1,k2⟩:=(zbf7 c).1 hok
   have hk:okI e.k:=by rw [k0]; unfold okI; omega
   rw [zQ3 hk hr,Option.bind_some]
   have hr1:=hr.right
   rw [if_pos k0,List.append_assoc] at hr1 ⊢
   obtain ⟨a1,a2⟩:=zbi9 k2
   have hs:=zbj0 k1
   simp only [decide_true,Bool.not_true,Bool.false_eq_true,if_false,k0,if_true]
   rw [zcb5 (by omega) hr1,Option.bind_some,zaO2 a1 a2 hr1.right,Option.bind_some]
   have hkids:e.kids=[]:=List.eq_nil_of_length_eq_zero c
   obtain ⟨ek,ea,eks⟩:=e
   simp only at k0 hkids
   subst k0; subst hkids
   rfl
  ·obtain ⟨⟨k0,k1,k2⟩,k3⟩:=(zbf8 c).1 hok
   have hlen:=zC0 e.kids
   have hne:=zH7 e
   have hk:okI e.k:=by unfold okI; omega
   rw [zQ3 hk hr,Option.bind_some]
   have hr1:=hr.right
   have kn:¬ e.k=0:=by omega
   rw [if_neg kn,List.append_assoc] at hr1 ⊢
   simp only [decide_true,Bool.not_true,Bool.false_eq_true,if_false,kn,decide_false]
   rw [zaA3 (by omega) (by omega) (by decide) hr1,Option.bind_some]
   have hw:IntKind.i64.wrap (dp+1)=dp+1:=zf6 (by omega) (by omega)
   have key:=zaA4 (body:=zA0 (zv0 n) dp) (enc:=encE) (ok:=fun k=>okE k=true∧zn0 k≤24∧dp+1+zr7 k≤5)
    (fun pre=>(⟨e.k,⟨Expr.zero.atom.name,⟨Expr.zero.atom.amount.mode,Expr.zero.atom.amount.units⟩⟩,pre⟩:Expr)) (fun m x rest pre hx hsrc hm hm2 hp=>by
     unfold zA0
     rw [if_pos (by simp; omega)]
     simp only [hw]
     rw [zcb6 n (dp+1) x hx.1 hx.2.1 (by omega) hx.2.2 (by omega) rest hsrc,Option.bind_some,gdp (by omega),zf6 (by omega) (by omega)])
    (fun d q=>by unfold zA0; simp) e.kids [] r (fun k hk=>⟨zbt6 k3 hk,by have:=zaH9 hk; omega,by have:=zcO2 hk; omega⟩) hr1.right (by simp; omega)
   show (zc0 _ ((e.kids.length:Int),D (e.kids.flatMap encE++r),(⟨e.k,⟨Expr.zero.atom.name,⟨Expr.zero.atom.amount.mode,Expr.zero.atom.amount.units⟩⟩,[]⟩:Expr))).bind _=_
   rw [key,Option.bind_some]
   unfold zF0
   obtain ⟨ek,ea,eks⟩:=e
   simp only at k2
   subst k2
   rfl
theorem zcA7 {e:Expr} (hok:okE e=true) (hf:fitE e=true) {r:List Int} (hr:Src (encE e++r)):zn7 1 (D (encE e++r))=some (e,D r):=by
 unfold fitE at hf
 simp only [Bool.and_eq_true,decide_eq_true_eq] at hf
 unfold zn7
 exact zcb6 _ 1 e hok hf.2 (by decide) (by omega) (by decide) r hr
structure OkQ (q:Queue):Prop where
 name:q.resource.name.size≤1024
 kind:okI q.resource.kind
 units:okI q.resource.units
 home:okI q.resource.home
 gen:okI q.gen
 lh:q.holds.length≤8
 lc:q.converts.length≤8
 lw:q.waits.length≤8
 h:∀ x ∈ q.holds,zb6 x.proc=true∧okA x.amount
 c:∀ x ∈ q.converts,zb6 x.proc=true∧okA x.amount∧x.priority=0∧x.passed=0
 w:∀ x ∈ q.waits,zb6 x.proc=true∧okA x.amount∧okI x.priority∧okI x.passed
theorem zcA8 {q:Queue} (h:OkQ q) {r:List Int} (hr:Src (encQ q++r)):zg0 (D (encQ q++r))=some (q,D r):=by
 have lh:=h.lh; have lc:=h.lc; have lw:=h.lw
 unfold zg0
 unfold encQ at hr ⊢
 simp only [List.append_assoc] at hr ⊢
 rw [zcb5 h.name hr,Option.bind_some]
 replace hr:=hr.right
 rw [zQ3 h.kind hr,Option.bind_some]
 replace hr:=hr.right
 rw [zQ3 h.units hr,Option.bind_some]
 replace hr:=hr.right
 rw [zQ3 h.home hr,Option.bind_some]
 replace hr:=hr.right
 rw [zQ3 h.gen hr,Option.bind_some]
 replace hr:=hr.right
 rw [zaA3 (by omega) (by omega) (by decide) hr,Option.bind_some]
 replace hr:=hr.right
 have key3:=zaA4 (body:=zz0) (enc:=encH) (ok:=fun x=>zb6 x.proc=true∧okA x.amount)
  (fun pre=>(⟨⟨q.resource.name,q.resource.kind,q.resource.units,q.resource.home⟩,pre,[],[],q.gen⟩:Queue)) (fun m x rest pre hx hsrc hm hm2 hp=>by
   unfold zz0
   unfold encH at hsrc ⊢
   rw [List.append_assoc] at hsrc ⊢
   rw [if_pos (by simp; omega),zbi8 hx.1 hsrc,Option.bind_some,zaO2 hx.2.1 hx.2.2 hsrc.right,Option.bind_some,gdp (by first|omega|(simp only; omega)),zf6 (by omega) (by omega)])
  (fun d q=>by unfold zz0; simp) q.holds [] _ h.h hr (by simp; omega)
 rw [key3,Option.bind_some]
 replace hr:=hr.right
 unfold zE1
 rw [zaA3 (by omega) (by omega) (by decide) hr,Option.bind_some]
 replace hr:=hr.right
 have key2:=zaA4 (body:=zy9) (enc:=encC) (ok:=fun x=>zb6 x.proc=true∧okA x.amount∧x.priority=0∧x.passed=0)
  (fun pre=>(⟨⟨q.resource.name,q.resource.kind,q.resource.units,q.resource.home⟩,[]++q.holds,pre,[],q.gen⟩:Queue)) (fun m x rest pre hx hsrc hm hm2 hp=>by
   unfold zy9
   unfold encC at hsrc ⊢
   rw [List.append_assoc] at hsrc ⊢
   rw [if_pos (by simp; omega),zbi8 hx.1 hsrc,Option.bind_some,zaO2 hx.2.1.1 hx.2.1.2 hsrc.right,Option.bind_some,gdp (by first|omega|(simp only; omega)),zf6 (by omega) (by omega)]
   obtain ⟨xp,xa,xr,xs⟩:=x
   obtain ⟨_,_,x1,x2⟩:=hx
   simp only at x1 x2
   subst x1; subst x2
   rfl)
  (fun d q=>by unfold zy9; simp) q.converts [] _ h.c hr (by simp; omega)
 rw [key2,Option.bind_some]
 replace hr:=hr.right
 unfold zE0
 rw [zaA3 (by omega) (by omega) (by decide) hr,Option.bind_some]
 replace hr:=hr.right
 have key1:=zaA4 (body:=zy8) (enc:=encW) (ok:=fun x=>zb6 x.proc=true∧okA x.amount∧okI x.priority∧okI x.passed)
  (fun pre=>(⟨⟨q.resource.name,q.resource.kind,q.resource.units,q.resource.home⟩,[]++q.holds,[]++q.converts,pre,q.gen⟩:Queue)) (fun m x rest pre hx hsrc hm hm2 hp=>by
   unfold zy8
   unfold encW at hsrc ⊢
   simp only [List.append_assoc] at hsrc ⊢
   rw [if_pos (by simp; omega),zbi8 hx.1 hsrc,Option.bind_some,zaO2 hx.2.1.1 hx.2.1.2 hsrc.right,Option.bind_some,zQ3 hx.2.2.1 hsrc.right.right,Option.bind_some,zQ3 hx.2.2.2 hsrc.right.right.right,Option.bind_some,gdp (by first|omega|(simp only; omega)),zf6 (by omega) (by omega)])
  (fun d q=>by unfold zy8; simp) q.waits [] _ h.w hr (by simp; omega)
 rw [key1,Option.bind_some]
 rfl
structure OkS (s:WaitState):Prop where
 lq:s.queues.length≤8
 ln:s.needs.length≤8
 q:∀ q ∈ s.queues,OkQ q
 n:∀ n ∈ s.needs,zb6 n.proc=true∧okI n.gen∧okE n.expr=true∧fitE n.expr=true
theorem zbD5 {s:WaitState} (h:OkS s) (hl:(encS s).length≤4294967296):zu7 (encS s)=some (if zQ2 s=true then (s,0) else (WaitState.zero,2)):=by
 have lq:=h.lq; have ln:=h.ln
 have hr:Src (encS s++[]):=⟨(zcA6 s).app zT7.nil,by rw [List.append_nil]; omega⟩
 have he:encS s=encS s++[]:=(List.append_nil _).symm
 unfold zu7
 rw [he]
 unfold encS at hr ⊢
 simp only [List.append_assoc] at hr ⊢
 have c0:=zaA3 (lim:=8) (by omega) (by omega) (by decide) hr
 have z:(⟨{ waitstateReader.zero with rest:=encI (s.queues.length:Int)++(s.queues.flatMap encQ++(encI (s.needs.length:Int)++(s.needs.flatMap encN++[]))) }⟩:decoder)=D (encI (s.queues.length:Int)++(s.queues.flatMap encQ++(encI (s.needs.length:Int)++(s.needs.flatMap encN++[])))):=rfl
 rw [z,c0,Option.bind_some]
 replace hr:=hr.right
 have key2:=zaA4 (body:=zM5) (enc:=encQ) (ok:=OkQ) (fun pre=>(⟨pre,[]⟩:WaitState)) (fun m x rest pre hx hsrc hm hm2 hp=>by
   unfold zM5
   rw [if_pos (by simp; omega),zcA8 hx hsrc,Option.bind_some,gdp (by first|omega|(simp only; omega)),zf6 (by omega) (by omega)])
  (fun d q=>by unfold zM5; simp) s.queues [] _ h.q hr (by simp; omega)
 rw [key2,Option.bind_some]
 replace hr:=hr.right
 unfold zW7
 rw [zaA3 (by omega) (by omega) (by decide) hr,Option.bind_some]
 replace hr:=hr.right
 have key1:=zaA4 (body:=zM4) (enc:=encN) (ok:=fun n=>zb6 n.proc=true∧okI n.gen∧okE n.expr=true∧fitE n.expr=true) (fun pre=>(⟨[]++s.queues,pre⟩:WaitState)) (fun m x rest pre hx hsrc hm hm2 hp=>by
   unfold zM4
   unfold encN at hsrc ⊢
   simp only [List.append_assoc] at hsrc ⊢
   rw [if_pos (by simp; omega),zbi8 hx.1 hsrc,Option.bind_some,zQ3 hx.2.1 hsrc.right,Option.bind_some,zcA7 hx.2.2.1 hx.2.2.2 hsrc.right.right,Option.bind_some,gdp (by first|omega|(simp only; omega)),zf6 (by omega) (by omega)])
  (fun d q=>by unfold zM4; simp) s.needs [] _ h.n hr (by simp; omega)
 rw [key1,Option.bind_some]
 unfold zai0
 simp only [decide_true,Bool.not_true,Bool.false_eq_true,if_false,List.nil_append,List.length_nil]
 rw [if_neg (by simp),zW4,Option.bind_some]
 cases zQ2 s <;> rfl
theorem zbR5 {q:Queue} (hs:SoundP q) {w:Wait} (hw:w ∈ ordQ q):zb6 w.proc=true∧zb3 q.resource w.amount=true∧(zv7 w.proc q.holds).length+1≤8:=by
 have hvh:=(zW1 _ _).1 hs.hv
 rcases List.mem_append.1 hw with h|h
 ·obtain ⟨h1,h2,_⟩:=hs.cg w h
  refine ⟨(hvh.2.2.1.each _ (zaK5 h1)).1,h2,?_⟩
  have:=zby3 (zbh9 hs.hv) h1
  omega
 ·have h1:=hs.wg w h
  have h2:=((zaK3 _).1 hs.wv).2.1 w h
  refine ⟨?_,h1.1,?_⟩
  ·rw [← zaH1] at h2
   unfold zz8 at h2
   rw [zax2] at h2
   simp only [Bool.and_eq_true] at h2
   exact h2.1.1.1.1.1
  ·have:=hs.wl
   have h3:=zaK0 w.proc q.holds
   have:0 < q.waits.length:=List.length_pos_of_mem h
   omega
theorem zcA9 {l:List Wait} (h:zX3 l=true) {w:Wait} (hw:w ∈ l):zl8 w=true:=by
 unfold zX3 at h
 simp only [Bool.and_eq_true,decide_eq_true_eq,List.all_eq_true,List.mem_range] at h
 obtain ⟨i,hi,e⟩:=List.getElem_of_mem hw
 have:=(h.2 i hi).1
 rw [List.getD_eq_getElem?_getD,List.getElem?_eq_getElem hi] at this
 simp only [Option.getD_some,e] at this
 exact this
theorem zch7 {r:Resource} {a:Amount} (h:zb3 r a=true) (hs:r.units≤1073741824):okA a:=by
 rw [zK1] at h
 unfold okA okI
 omega
theorem zbR6 {q:Queue} (h:zk0 q=true):OkQ q∧q.resource.name.size≤12:=by
 have hs:=((zx5 q).1 h).1
 have hl:=zag4 h
 have hr:=hs.res
 unfold resV at hr
 simp only [Bool.and_eq_true,decide_eq_true_eq] at hr
 have hn:=zbj0 hr.1
 have hsh:=(zK0 _).1 hr.2.1
 have hu:q.resource.units≤1073741824:=by omega
 refine ⟨⟨by omega,by unfold okI; omega,by unfold okI; omega,by unfold okI; omega,hs.gen,hl.1,hl.2.1,hl.2.2.1,fun x hx=>?_,fun x hx=>?_,fun x hx=>?_⟩,hn⟩
 ·have:=((zW1 _ _).1 hs.hv).2.2.1.each x hx
  exact ⟨this.1,zch7 this.2 hu⟩
 ·have:=zbR5 hs (w:=x) (by unfold ordQ; exact List.mem_append.2 (.inl hx))
  have h2:=hs.cg x hx
  exact ⟨this.1,zch7 this.2.1 hu,h2.2.2.2.2.1,h2.2.2.2.2.2⟩
 ·have:=zbR5 hs (w:=x) (by unfold ordQ; exact List.mem_append.2 (.inr hx))
  have h2:=zcA9 hs.wv hx
  unfold zl8 at h2
  simp only [Bool.and_eq_true,decide_eq_true_eq] at h2
  exact ⟨this.1,zch7 this.2.1 hu,by unfold okI; omega,by unfold okI; omega⟩
theorem zbR7 {l:List Need} (h:zaA2 l=true) {n:Need} (hn:n ∈ l):zb6 n.proc=true∧vE n.expr=true∧okI n.gen:=by
 unfold zaA2 at h
 rw [List.all_eq_true] at h
 obtain ⟨i,hi,e⟩:=List.getElem_of_mem hn
 have:=h i (List.mem_range.2 hi)
 rw [List.getD_eq_getElem?_getD,List.getElem?_eq_getElem hi] at this
 simp only [Option.getD_some,e] at this
 unfold zaT7 at this
 simp only [Bool.and_eq_true,decide_eq_true_eq] at this
 exact ⟨this.1.1.1.1,this.1.1.1.2,this.1.1.2,this.1.2⟩
theorem zcH2 {e:Expr} (h:vE e=true):okE e=true∧fitE e=true:=by
 unfold vE at h
 rw [Bool.and_eq_true] at h
 refine ⟨?_,h.1⟩
 have h2:=h.2
 unfold zai9 at h2
 split at h2
 ·assumption
 ·cases h2
theorem zbg4 {s:WaitState} (h:zQ2 s=true):OkS s∧∀ q ∈ s.queues,q.resource.name.size≤12:=by
 unfold zQ2 at h
 simp only [Bool.and_eq_true,decide_eq_true_eq] at h
 obtain ⟨h1,h2,_⟩:=(zal0 _).1 h.1.1.1
 refine ⟨⟨h1,h.1.1.2,fun q hq=>(zbR6 (h2 q hq)).1,fun n hn=>?_⟩,fun q hq=>(zbR6 (h2 q hq)).2⟩
 obtain ⟨a,b,c⟩:=zbR7 h.1.2 hn
 exact ⟨a,c,(zcH2 b).1,(zcH2 b).2⟩
theorem zR2 {x:Int} (h:okI x):(encI x).length≤5:=(zbg1 4 x.toNat (by have:=h.1; have:=h.2; omega)).2
theorem zcH3 {s:ByteArray} (h:s.size≤1024):(encT s).length≤1029:=by
 have:=(zbg1 4 s.size (by omega)).2
 unfold encT
 rw [List.length_append,List.length_map,zaX1]; omega
theorem zbH6 {p:Proc} (h:zb6 p=true):(encP p).length≤15:=by
 obtain ⟨a,b,c⟩:=zaX2 h
 have:=zR2 a; have:=zR2 b; have:=zR2 c
 unfold encP
 simp only [List.length_append]; omega
theorem zbH7 {a:Amount} (h:okA a):(encA a).length≤10:=by
 have:=zR2 h.1; have:=zR2 h.2
 unfold encA
 simp only [List.length_append]; omega
theorem zbj1 {α:Type} {f:α→List Int} {c:Nat}:∀ {l:List α},(∀ x ∈ l,(f x).length≤c)→(l.flatMap f).length≤c * l.length
 | [],_=>by simp
 | x :: l,h=>by
  have h1:=h x (.head _)
  have h2:=zbj1 (l:=l) fun y hy=>h y (.tail _ hy)
  rw [List.flatMap_cons,List.length_append,List.length_cons,Nat.mul_add]; omega
theorem zcH4:∀ (n:Nat) (e:Expr),_root_.SizeOf.sizeOf e < n→okE e=true→zn0 e≤24→((encE e).length:Int)≤1100 * zn0 e
 | 0,_,h,_,_=>by omega
 | n+1,e,h,hok,hn=>by
  have hne:=zH7 e
  have hl:=zC0 e.kids
  rw [zbH5,List.length_append]
  by_cases c:e.kids.length=0
  ·obtain ⟨k0,k1,k2⟩:=(zbf7 c).1 hok
   have:=zR2 (x:=e.k) (by rw [k0]; unfold okI; omega)
   have:=zcH3 (s:=e.atom.name) (by have:=zbj0 k1; omega)
   have:=zbH7 (zbi9 k2)
   rw [if_pos k0,List.length_append]; omega
  ·obtain ⟨⟨k0,k1,k2⟩,k3⟩:=(zbf8 c).1 hok
   have e1:=zR2 (x:=e.k) (by unfold okI; omega)
   have e2:=zR2 (x:=(e.kids.length:Int)) (by unfold okI; omega)
   rw [if_neg (by omega),List.length_append]
   have key:∀ l:List Expr,(∀ k ∈ l,k ∈ e.kids)→((l.flatMap encE).length:Int)≤1100 * zw6 l:=by
    intro l
    induction l with
    | nil=>intro _; simp [zaW8]
    | cons k l ih =>
     intro hk
     have h1:=zcH4 n k (zah6 h (hk k (.head _))) (zbt6 k3 (hk k (.head _))) (by have:=zaH9 (hk k (.head _)); omega)
     have h2:=ih fun y hy=>hk y (.tail _ hy)
     rw [List.flatMap_cons,List.length_append,zaa3]; omega
   have:=key e.kids fun _ h=>h
   omega
theorem zdm9 {q:Queue} (h:OkQ q):(encQ q).length≤2000:=by
 have lh:=h.lh; have lc:=h.lc; have lw:=h.lw
 have a1:=zcH3 h.name; have a2:=zR2 h.kind; have a3:=zR2 h.units; have a4:=zR2 h.home; have a5:=zR2 h.gen
 have a6:=zR2 (x:=(q.holds.length:Int)) (by unfold okI; omega)
 have a7:=zR2 (x:=(q.converts.length:Int)) (by unfold okI; omega)
 have a8:=zR2 (x:=(q.waits.length:Int)) (by unfold okI; omega)
 have b1:=zbj1 (l:=q.holds) (f:=encH) (c:=25) fun x hx=>by
  have:=zbH6 (h.h x hx).1; have:=zbH7 (h.h x hx).2
  unfold encH; rw [List.length_append]; omega
 have b2:=zbj1 (l:=q.converts) (f:=encC) (c:=25) fun x hx=>by
  have:=zbH6 (h.c x hx).1; have:=zbH7 (h.c x hx).2.1
  unfold encC; rw [List.length_append]; omega
 have b3:=zbj1 (l:=q.waits) (f:=encW) (c:=35) fun x hx=>by
  have:=zbH6 (h.w x hx).1; have:=zbH7 (h.w x hx).2.1; have:=zR2 (h.w x hx).2.2.1; have:=zR2 (h.w x hx).2.2.2
  unfold encW; simp only [List.length_append]; omega
 unfold encQ
 simp only [List.length_append]; omega
theorem zdn0 {n:Need} (h:zb6 n.proc=true∧okI n.gen∧okE n.expr=true∧fitE n.expr=true):(encN n).length≤30000:=by
 have h4:=h.2.2.2
 unfold fitE at h4
 simp only [Bool.and_eq_true,decide_eq_true_eq] at h4
 have:=zbH6 h.1; have:=zR2 h.2.1; have:=zcH4 _ n.expr (Nat.lt_succ_self _) h.2.2.1 h4.2
 unfold encN
 simp only [List.length_append]; omega
theorem zch8 {s:WaitState} (h:OkS s):(encS s).length≤300000:=by
 have lq:=h.lq; have ln:=h.ln
 have a1:=zR2 (x:=(s.queues.length:Int)) (by unfold okI; omega)
 have a2:=zR2 (x:=(s.needs.length:Int)) (by unfold okI; omega)
 have b1:=zbj1 (l:=s.queues) (f:=encQ) (c:=2000) fun x hx=>zdm9 (h.q x hx)
 have b2:=zbj1 (l:=s.needs) (f:=encN) (c:=30000) fun x hx=>zdn0 (h.n x hx)
 unfold encS
 simp only [List.length_append]; omega
abbrev room (l e:List Int):Prop:=l.length+e.length≤4294960000
theorem room.left {l a b:List Int} (h:room l (a++b)):room l a:=by unfold room at *; rw [List.length_append] at h; omega
theorem room.right {l a b:List Int} (h:room l (a++b)):room (l++a) b:=by unfold room at *; rw [List.length_append] at h ⊢; omega
theorem zaO3 {l:List Int} {x:Int} (h:okI x) (hr:room l (encI x)):zd9 l (IntKind.u64.wrap x)=some (l++encI x)∧zf0 l (IntKind.u64.wrap x)=some (l++encI x):=by
 unfold room at hr
 obtain ⟨h0,h1⟩:=h
 rw [zat8 x h0 (by omega)]
 have:x=((x.toNat:Nat):Int):=(Int.toNat_of_nonneg h0).symm
 unfold encI
 rw [this,Int.toNat_natCast]
 exact ⟨zcb4 (by omega) (by omega),zbz3 (by omega) (by omega)⟩
theorem zbt7 {l:List Int} {x:Int} (h:okI x) (hr:room l (encI x)):zq0 l x=some (l++encI x):=by
 unfold zq0
 rw [(zaO3 h hr).2]; rfl
theorem zbt8:∀ (xs:List Int) (l:List Int),(∀ x ∈ xs,okI x)→xs.length≤1000→room l (xs.flatMap encI)→zc1 l xs=some (l++xs.flatMap encI):=by
 intro xs l hx hlen hr
 unfold zc1
 have key:∀ k i (acc:List Int),i+k=xs.length→room acc ((xs.drop i).flatMap encI)→zc0 (zD3 xs) (acc,(i:Int))=some (acc++(xs.drop i).flatMap encI):=by
  intro k
  induction k with
  | zero =>
   intro i acc hi _
   have:i=xs.length:=by omega
   subst this
   rw [zg1,List.drop_length]
   unfold zD3
   rw [if_neg (by simp)]
   simp
  | succ k ih =>
   intro i acc hi hrm
   have hlt:i < xs.length:=by omega
   rw [zat2 xs i 0 hlt] at hrm ⊢
   rw [List.flatMap_cons] at hrm ⊢
   have hok:=hx _ (zj8 (z:=0) hlt)
   rw [zg1]
   unfold zD3
   simp only
   rw [if_pos (by simpa using hlt),gdp (by omega)]
   simp only [Int.toNat_natCast]
   rw [(zaO3 hok hrm.left).1,Option.bind_some,zc4 i (by omega)]
   simp only
   have:=ih (i+1) (acc++encI (xs.getD i 0)) (by omega) hrm.right
   unfold zD3 at this
   rw [this,List.append_assoc]
 have:=key xs.length 0 l (by omega) hr
 rw [show ((l,0):List Int×Int)=(l,((0:Nat):Int)) from rfl,this]
 rfl
theorem zcr4 {l:List Int} {s:ByteArray} (h:s.size≤1024) (hr:room l (encT s)):zi8 l s=some (l++encT s)∧zk9 l s=some (l++encT s):=by
 have hr':=hr
 unfold room at hr'
 unfold zi8 zk9
 unfold encT at hr hr' ⊢
 rw [List.length_append,List.length_map,zaX1] at hr'
 rw [zat8 (s.size:Int) (by omega) (by omega),zcr1 (by omega) (by omega),zcr0 (by omega) (by omega),Option.bind_some,gdp (by rw [List.length_append,zaX1]; omega),List.append_assoc]
 exact ⟨rfl,rfl⟩
theorem zbt9 {l:List Int} {p:Proc} (h:zb6 p=true) (hr:room l (encP p)):zi9 l p=some (l++encP p)∧zm2 l p=some (l++encP p):=by
 obtain ⟨k1,k2,k3⟩:=zaX2 h
 unfold encP at hr ⊢
 have r1:=hr.left.left
 have r2:=hr.left.right
 have r3:=hr.right
 rw [← List.append_assoc] at r3
 constructor
 ·unfold zi9
  have t1:∀ acc:List Int,room acc (encI p.site)→zx7 p (acc,0)=some (.inl (acc++encI p.site,1)):=fun acc ha=>by
   unfold zx7
   rw [if_pos (by simp),gdp (by simp)]
   show ((zd9 acc (IntKind.u64.wrap p.site)).bind fun v1=>some (Sum.inl (v1,IntKind.i64.wrap (0+1))))=_
   rw [(zaO3 k1 ha).1]; rfl
  have t2:∀ acc:List Int,room acc (encI p.inc)→zx7 p (acc,1)=some (.inl (acc++encI p.inc,2)):=fun acc ha=>by
   unfold zx7
   rw [if_pos (by simp),gdp (by simp)]
   show ((zd9 acc (IntKind.u64.wrap p.inc)).bind fun v1=>some (Sum.inl (v1,IntKind.i64.wrap (1+1))))=_
   rw [(zaO3 k2 ha).1]; rfl
  have t3:∀ acc:List Int,room acc (encI p.num)→zx7 p (acc,2)=some (.inl (acc++encI p.num,3)):=fun acc ha=>by
   unfold zx7
   rw [if_pos (by simp),gdp (by simp)]
   show ((zd9 acc (IntKind.u64.wrap p.num)).bind fun v1=>some (Sum.inl (v1,IntKind.i64.wrap (2+1))))=_
   rw [(zaO3 k3 ha).1]; rfl
  have t4:∀ acc:List Int,zx7 p (acc,3)=some (.inr acc):=fun acc=>by
   unfold zx7
   rw [if_neg (by simp)]
  have hlen:l.length≤4294967296:=by unfold room at hr; omega
  rw [gdp hlen,if_neg (by simp [h]),zg1,t1 l r1]
  simp only
  rw [zg1,t2 _ r2]
  simp only
  rw [zg1,t3 _ r3]
  simp only
  rw [zg1,t4]
  simp only [List.append_assoc]
  rfl
 ·unfold zm2
  rw [zax2,if_neg (by simp [h]),(zaO3 k1 r1).2,Option.bind_some,(zaO3 k2 r2).2,Option.bind_some,(zaO3 k3 r3).2]
  simp only [List.append_assoc]
  rfl
theorem zcB0 {l:List Int} {a:Amount} (h:okA a) (hr:room l (encA a)):zp0 l a=some (l++encA a):=by
 unfold zp0
 unfold encA at hr ⊢
 rw [zbt7 h.1 hr.left,Option.bind_some,zbt7 h.2 hr.right,List.append_assoc]
 rfl
theorem zbp3 {l:List Int} {a:Amount} (h:okA a) (hr:room l (encA a)):zc1 l [a.mode,a.units]=some (l++encA a):=by
 have:[a.mode,a.units].flatMap encI=encA a:=by simp [encA]
 rw [zbt8 _ l (fun x hx=>by
  simp only [List.mem_cons,List.not_mem_nil,or_false] at hx
  rcases hx with rfl|rfl
  ·exact h.1
  ·exact h.2) (by simp) (by rw [this]; exact hr),this]
theorem zaO4 {l:List Int} {x:Int} (h:okI x) (hr:room l (encI x)):zc1 l [x]=some (l++encI x):=by
 have:[x].flatMap encI=encI x:=by simp
 rw [zbt8 _ l (fun y hy=>by rw [List.mem_singleton.1 hy]; exact h) (by simp) (by rw [this]; exact hr),this]
theorem zas2 {α:Type} {body:List Int×Int→Option ((List Int×Int)⊕List Int)} {enc:α→List Int} {ok:α→Prop} (l:List α) (z:α) (hlen:l.length≤1000)
  (hs:∀ (i:Nat) acc,i < l.length→ok (l.getD i z)→room acc (enc (l.getD i z))→body (acc,(i:Int))=some (.inl (acc++enc (l.getD i z),((i+1:Nat):Int))))
  (he:∀ acc,body (acc,(l.length:Int))=some (.inr acc)) (hok:∀ x ∈ l,ok x) (acc:List Int) (hr:room acc (l.flatMap enc)):zc0 body (acc,0)=some (acc++l.flatMap enc):=by
 have key:∀ k i (acc:List Int),i+k=l.length→room acc ((l.drop i).flatMap enc)→zc0 body (acc,(i:Int))=some (acc++(l.drop i).flatMap enc):=by
  intro k
  induction k with
  | zero =>
   intro i acc hi _
   have:i=l.length:=by omega
   subst this
   rw [zg1,List.drop_length,he]
   simp
  | succ k ih =>
   intro i acc hi hrm
   have hlt:i < l.length:=by omega
   rw [zat2 l i z hlt] at hrm ⊢
   rw [List.flatMap_cons] at hrm ⊢
   rw [zg1,hs i acc hlt (hok _ (zj8 (z:=z) hlt)) hrm.left]
   simp only
   rw [ih (i+1) _ (by omega) hrm.right,List.append_assoc]
 exact key l.length 0 acc (by omega) hr
theorem zbR8:∀ (n:Nat) (e:Expr),_root_.SizeOf.sizeOf e < n→okE e=true→zn0 e≤24→∀ l,room l (encE e)→zH1 n l e=some (l++encE e)∧zaB0 n l e=some (l++encE e)
 | 0,_,h,_,_,_,_=>by omega
 | n+1,e,h,hok,hn,l,hr=>by
  show zF4 (zH1 n) l e=_∧zaw2 (zaB0 n) l e=_
  unfold zF4 zaw2
  have hl:=zC0 e.kids
  have hne:=zH7 e
  rw [zbH5] at hr ⊢
  by_cases c:e.kids.length=0
  ·obtain ⟨k0,k1,k2⟩:=(zbf7 c).1 hok
   have hk:okI e.k:=by rw [k0]; unfold okI; omega
   rw [zaO4 hk hr.left,zbt7 hk hr.left,Option.bind_some,Option.bind_some]
   have hr1:=hr.right
   rw [if_pos k0] at hr1 ⊢
   have ht:=zcr4 (by have:=zbj0 k1; omega) hr1.left
   rw [if_pos (by simpa using k0),if_pos (by simpa using k0),ht.1,ht.2,Option.bind_some,Option.bind_some,zbp3 (zbi9 k2) hr1.right,zcB0 (zbi9 k2) hr1.right]
   simp only [List.append_assoc]
   exact ⟨rfl,rfl⟩
  ·obtain ⟨⟨k0,k1,k2⟩,k3⟩:=(zbf8 c).1 hok
   have hk:okI e.k:=by unfold okI; omega
   have kn:¬ e.k=0:=by omega
   rw [zaO4 hk hr.left,zbt7 hk hr.left,Option.bind_some,Option.bind_some]
   have hr1:=hr.right
   rw [if_neg kn] at hr1 ⊢
   have hc:okI (e.kids.length:Int):=by unfold okI; omega
   rw [if_neg (by simpa using kn),if_neg (by simpa using kn),zaO4 hc hr1.left,zbt7 hc hr1.left,Option.bind_some,Option.bind_some]
   have hF:∀ k ∈ e.kids,okE k=true∧zn0 k≤24∧_root_.SizeOf.sizeOf k < n:=fun k hk=>⟨zbt6 k3 hk,by have:=zaH9 hk; omega,zah6 h hk⟩
   have w1:=zas2 (body:=zJ1 (zH1 n) e) (enc:=encE) (ok:=fun k=>okE k=true∧zn0 k≤24∧_root_.SizeOf.sizeOf k < n) e.kids Expr.zero (by omega) (fun i acc hi hx ha=>by
    unfold zJ1
    simp only
    rw [if_pos (by simpa using hi),gdp (by omega)]
    simp only [Int.toNat_natCast]
    rw [(zbR8 n _ hx.2.2 hx.1 hx.2.1 acc ha).1,Option.bind_some,zc4 i (by omega)]) (fun acc=>by unfold zJ1; simp) hF _ hr1.right
   have w2:=zas2 (body:=zah1 (zaB0 n) e) (enc:=encE) (ok:=fun k=>okE k=true∧zn0 k≤24∧_root_.SizeOf.sizeOf k < n) e.kids Expr.zero (by omega) (fun i acc hi hx ha=>by
    unfold zah1
    simp only
    rw [if_pos (by simpa using hi),gdp (by omega)]
    simp only [Int.toNat_natCast]
    rw [(zbR8 n _ hx.2.2 hx.1 hx.2.1 acc ha).2,Option.bind_some,zc4 i (by omega)]) (fun acc=>by unfold zah1; simp) hF _ hr1.right
   rw [w1,w2]
   simp only [List.append_assoc]
   exact ⟨rfl,rfl⟩
theorem zcO3 {q:Queue} (h:OkQ q) {l:List Int} (hr:room l (encQ q)):zj4 l q=some (l++encQ q):=by
 have lh:=h.lh; have lc:=h.lc; have lw:=h.lw
 have o1:okI (q.holds.length:Int):=by unfold okI; omega
 have o2:okI (q.converts.length:Int):=by unfold okI; omega
 have o3:okI (q.waits.length:Int):=by unfold okI; omega
 unfold zj4
 unfold encQ at hr ⊢
 rw [(zcr4 h.name hr.left).1,Option.bind_some]
 replace hr:=hr.right
 have e5:[q.resource.kind,q.resource.units,q.resource.home,q.gen,(q.holds.length:Int)].flatMap encI=encI q.resource.kind++(encI q.resource.units++(encI q.resource.home++(encI q.gen++encI (q.holds.length:Int)))):=by simp
 have hr5:room (l++encT q.resource.name) ([q.resource.kind,q.resource.units,q.resource.home,q.gen,(q.holds.length:Int)].flatMap encI):=by
  rw [e5]; unfold room at hr ⊢; simp only [List.length_append] at hr ⊢; omega
 rw [zbt8 _ _ (fun x hx=>by
  simp only [List.mem_cons,List.not_mem_nil,or_false] at hx
  rcases hx with rfl|rfl|rfl|rfl|rfl
  ·exact h.kind
  ·exact h.units
  ·exact h.home
  ·exact h.gen
  ·exact o1) (by simp) hr5,Option.bind_some,e5]
 replace hr:=hr.right.right.right.right.right
 have assoc:l++encT q.resource.name++encI q.resource.kind++encI q.resource.units++encI q.resource.home++encI q.gen++encI (q.holds.length:Int)=l++encT q.resource.name++(encI q.resource.kind++(encI q.resource.units++(encI q.resource.home++(encI q.gen++encI (q.holds.length:Int))))):=by simp only [List.append_assoc]
 rw [assoc] at hr
 have w3:=zas2 (body:=zH5 q) (enc:=encH) (ok:=fun x=>zb6 x.proc=true∧okA x.amount) q.holds Hold.zero (by omega) (fun i acc hi hx ha=>by
  unfold encH at ha ⊢
  unfold zH5
  simp only
  rw [if_pos (by simpa using hi),gdp (by omega)]
  simp only [Int.toNat_natCast]
  rw [(zbt9 hx.1 ha.left).1,Option.bind_some,zbp3 hx.2 ha.right,Option.bind_some,zc4 i (by omega),List.append_assoc]) (fun acc=>by unfold zH5; simp) h.h _ hr.left
 rw [w3,Option.bind_some]
 replace hr:=hr.right
 unfold zR1
 rw [zaO4 o2 hr.left,Option.bind_some]
 replace hr:=hr.right
 have w2:=zas2 (body:=zH4 q) (enc:=encC) (ok:=fun x=>zb6 x.proc=true∧okA x.amount∧x.priority=0∧x.passed=0) q.converts Wait.zero (by omega) (fun i acc hi hx ha=>by
  unfold encC at ha ⊢
  unfold zH4
  simp only
  rw [if_pos (by simpa using hi),gdp (by omega)]
  simp only [Int.toNat_natCast]
  rw [(zbt9 hx.1 ha.left).1,Option.bind_some,zbp3 hx.2.1 ha.right,Option.bind_some,zc4 i (by omega),List.append_assoc]) (fun acc=>by unfold zH4; simp) h.c _ hr.left
 rw [w2,Option.bind_some]
 replace hr:=hr.right
 unfold zR0
 rw [zaO4 o3 hr.left,Option.bind_some]
 replace hr:=hr.right
 have w1:=zas2 (body:=zH3 q) (enc:=encW) (ok:=fun x=>zb6 x.proc=true∧okA x.amount∧okI x.priority∧okI x.passed) q.waits Wait.zero (by omega) (fun i acc hi hx ha=>by
  have e4:∀ w:Wait,[w.amount.mode,w.amount.units,w.priority,w.passed].flatMap encI=encA w.amount++(encI w.priority++encI w.passed):=fun w=>by simp [encA]
  unfold encW at ha ⊢
  rw [List.append_assoc,List.append_assoc] at ha ⊢
  unfold zH3
  simp only
  rw [if_pos (by simpa using hi),gdp (by omega)]
  simp only [Int.toNat_natCast]
  rw [(zbt9 hx.1 ha.left).1,Option.bind_some,zbt8 _ _ (fun y hy=>by
   simp only [List.mem_cons,List.not_mem_nil,or_false] at hy
   rcases hy with rfl|rfl|rfl|rfl
   ·exact hx.2.1.1
   ·exact hx.2.1.2
   ·exact hx.2.2.1
   ·exact hx.2.2.2) (by simp) (by rw [e4]; exact ha.right),Option.bind_some,zc4 i (by omega),e4]
  simp only [List.append_assoc]) (fun acc=>by unfold zH3; simp) h.w _ hr
 rw [w1,Option.bind_some]
 unfold zac8
 simp only [List.append_assoc]
theorem zaG5 (s:WaitState):zv6 s=some (if zQ2 s=true then (encS s,0) else ([],2)):=by
 unfold zv6
 rw [zW4,Option.bind_some]
 cases hv:zQ2 s with
 | false=>rfl
 | true =>
  have h:=(zbg4 hv).1
  have lq:=h.lq; have ln:=h.ln
  have hlen:=zch8 h
  have hr:room [] (encS s):=by unfold room; simp; omega
  simp only [Bool.not_true,Bool.false_eq_true,if_false,if_true]
  unfold encS at hr ⊢
  rw [zaO4 (by unfold okI; omega) hr.left,Option.bind_some]
  replace hr:=hr.right
  have w2:=zas2 (body:=zM3 s) (enc:=encQ) (ok:=OkQ) s.queues Queue.zero (by omega) (fun i acc hi hx ha=>by
   unfold zM3
   simp only
   rw [if_pos (by simpa using hi),gdp (by omega)]
   simp only [Int.toNat_natCast]
   rw [zcO3 hx ha,Option.bind_some,zc4 i (by omega)]) (fun acc=>by unfold zM3; simp) h.q _ hr.left
  rw [w2,Option.bind_some]
  replace hr:=hr.right
  unfold zW6
  rw [zaO4 (by unfold okI; omega) hr.left,Option.bind_some]
  replace hr:=hr.right
  have w1:=zas2 (body:=zM2 s) (enc:=encN) (ok:=fun n=>zb6 n.proc=true∧okI n.gen∧okE n.expr=true∧fitE n.expr=true) s.needs Need.zero (by omega) (fun i acc hi hx ha=>by
   have hf:=hx.2.2.2
   unfold fitE at hf
   simp only [Bool.and_eq_true,decide_eq_true_eq] at hf
   unfold encN at ha ⊢
   unfold zM2
   simp only
   rw [if_pos (by simpa using hi),gdp (by omega)]
   simp only [Int.toNat_natCast]
   rw [(zbt9 hx.1 ha.left).1,Option.bind_some,zaO4 hx.2.1 ha.right.left,Option.bind_some]
   unfold zj5
   rw [(zbR8 _ _ (Nat.lt_succ_self _) hx.2.2.1 hf.2 _ ha.right.right).1,Option.bind_some,zc4 i (by omega)]
   simp only [List.append_assoc]) (fun acc=>by unfold zM2; simp) h.n _ hr
  rw [w1,Option.bind_some]
  unfold zah9
  simp only [List.append_assoc,List.nil_append]
theorem zae7 {X:Type} {body:Int→Option (Int⊕(Unit⊕X))} (n:Nat) (h:∀ i:Nat,i < n→body (i:Int)=some (.inl ((i:Int)+1))) (he:body (n:Int)=some (.inr (.inl ()))):zc0 body 0=some (.inl ()):=by
 rw [zG6 n (fun _=>none) (Sum.inl ()) (fun i hi=>h i hi) he]
 have:∀ k i,zL6 (fun _:Nat=>(none:Option (Unit⊕X))) k i=none:=by
  intro k
  induction k with
  | zero=>intro i; rfl
  | succ k ih=>intro i; simp only [zL6]; exact ih (i+1)
 rw [this]; rfl
theorem zbW3:∀ (n:Nat) (e:Expr),_root_.SizeOf.sizeOf e < n→zn0 e≤24→zQ9 n e e=some true
 | 0,_,h,_=>by omega
 | n+1,e,h,hn=>by
  show zC5 (zQ9 n) e e=_
  have hl:=zC0 e.kids
  have hne:=zH7 e
  unfold zC5
  rw [if_neg (by simp),zae7 e.kids.length (fun i hi=>by
   unfold zS5
   have hk:=zj8 (z:=Expr.zero) hi
   rw [if_pos (by simpa using hi),gdp (by omega),gdp (by omega)]
   simp only [Int.toNat_natCast]
   rw [zbW3 n _ (zah6 h hk) (by have:=zaH9 hk; omega),Option.bind_some,if_neg (by simp),zf6 (by omega) (by omega)]) (by unfold zS5; simp)]
  rfl
theorem zaL5:∀ (n:Nat) (e:Expr),_root_.SizeOf.sizeOf e < n→zn0 e≤24→zB7 n e e=some true
 | 0,_,h,_=>by omega
 | n+1,e,h,hn=>by
  show zD6 (zB7 n) e e=_
  have hl:=zC0 e.kids
  have hne:=zH7 e
  unfold zD6
  rw [if_pos (by simp)]
  unfold za0
  rw [if_neg (by simp),zae7 e.kids.length (fun i hi=>by
   unfold zp7
   have hk:=zj8 (z:=Expr.zero) hi
   rw [if_pos (by simpa using hi),gdp (by omega),gdp (by omega)]
   simp only [Int.toNat_natCast]
   rw [zaL5 n _ (zah6 h hk) (by have:=zaH9 hk; omega),Option.bind_some,if_neg (by simp),zf6 (by omega) (by omega)]) (by unfold zp7; simp)]
  show some ((decide (e.k=e.k)&&decide (e.atom=e.atom))&&true)=_
  simp
def zbR9:Atom:=⟨⟨#[97]⟩,{ Amount.zero with mode:=5 }⟩
def zba2:Expr:={ Expr.zero with atom:=zbR9 }
def zbl8:Proc:=⟨0,1,1⟩
def zaE8:Need:=⟨zbl8,zba2,3⟩
def zG7:WaitState:=⟨[],[zaE8]⟩
theorem zdy3:zW0 zba2.atom.name=true:=by kernel_rfl
theorem zcH5:zn0 zba2=1:=by rw [zH7]; show 1+zw6 []=1; rw [zaW8]; rfl
theorem zdn1:zr7 zba2=1:=by rw [zaT6]; show 1+zt9 []=1; rw [zbo7]; rfl
theorem vE_A:vE zba2=true:=by
 unfold vE fitE
 rw [zcH5,zdn1,(zbz1 zba2).2 ⟨[zbR9],by rw [zbz0 rfl,if_pos ⟨rfl,zdy3,by decide⟩]; rfl,by decide,List.pairwise_singleton _ _⟩]
 rfl
theorem zbu0:zQ2 zG7=true:=by
 unfold zQ2
 have h1:zak9 zG7.queues=true:=by decide
 have h2:zaA2 zG7.needs=true:=by
  unfold zaA2
  show (([0]:List Nat).all fun i=>zaT7 [zaE8] i ([zaE8].getD i Need.zero))=true
  simp only [List.all_cons,List.all_nil,Bool.and_true]
  show zaT7 [zaE8] 0 zaE8=true
  unfold zaT7
  have:vE zaE8.expr=true:=vE_A
  rw [this]
  decide
 have h3:(zaL3 zG7).length≤8:=by
  have:=zbi3 (zC2 zG7.queues++zG7.needs.map (·.proc))
  have h4:(zC2 zG7.queues++zG7.needs.map (·.proc)).length=1:=rfl
  unfold zaL3
  omega
 rw [h1,h2]
 simp [h3]
 decide
theorem zcH6:zT5=some true:=by
 have hp:zp1 0=some zbl8:=by rw [zaW6]; rfl
 have hE:zv6 zG7=some (encS zG7,0):=by rw [zaG5,zbu0]; rfl
 have ok:=(zbg4 zbu0).1
 have hD:zu7 (encS zG7)=some (zG7,0):=by
  rw [zbD5 ok (by have:=zch8 ok; omega),zbu0]; rfl
 have hpl:zn5 zG7.needs zbl8=some 0:=by
  unfold zn5 zb8
  rw [zg1]
  have:zq6 zG7.needs (0,zbl8)=some (.inr (.inr (0,zbl8))):=by
   unfold zq6
   rw [if_pos (by decide),gdp (by decide)]
   unfold zf4
   rw [zae3]
   rfl
  rw [this]
  rfl
 have hN:zw9 zG7 zbl8=some (zaE8,true):=by
  unfold zw9
  rw [hpl,Option.bind_some,if_pos (by decide),gdp (by decide)]
  have:zd4 zaE8=some zaE8:=by
   unfold zd4 zd1
   show (zy6 _ zba2).bind _=_
   unfold zy6
   rw [zg1]
   unfold zaa4
   rfl
  show (zd4 zaE8).bind _=_
  rw [this]
  rfl
 have hG:zu9 zG7 zbl8=some [true]:=by
  unfold zu9
  rw [hpl,Option.bind_some,if_pos (by decide),zW4,zbu0,Option.bind_some,if_neg (by decide),gdp (by decide)]
  have:zv4 zba2=some [zbR9]:=by
   unfold zv4
   rw [zbp1,vE_A,Option.bind_some,if_neg (by decide)]
   unfold zl6
   show (zv9 _ zba2).bind _=_
   unfold zv9
   rw [if_pos (by decide)]
   have:za5 [] zba2.atom=some false:=by
    unfold za5 za7
    rw [zg1]
    unfold zv2
    rfl
   rw [this]
   rfl
  show (zv4 zba2).bind _=_
  rw [this,Option.bind_some,zg1]
  have hf:zk2 zG7.queues zbR9.name=some (-1):=by
   unfold zk2
   rw [zg1]
   unfold zah0
   rfl
  have h1:zv1 zG7 zbl8 [zbR9] (0,[])=some (.inl (1,[true])):=by
   unfold zv1
   rw [if_pos (by decide),gdp (by decide)]
   show (zk2 zG7.queues zbR9.name).bind _=_
   rw [hf]
   rfl
  have h2:zv1 zG7 zbl8 [zbR9] (1,[true])=some (.inr [true]):=by
   unfold zv1
   rfl
  rw [h1]
  simp only
  rw [zg1,h2]
  rfl
 have hS:zs6 zG7 zG7=some true:=by
  unfold zs6
  have q:zb1 zG7.queues zG7.queues=some true:=by
   unfold zb1
   rw [if_neg (by simp),zae7 0 (fun i hi=>by omega) (by unfold zk8; rfl)]
   rfl
  have n:za3 zG7.needs zG7.needs=some true:=by
   unfold za3
   have sn:ze7 zaE8 zaE8=some true:=by
    unfold ze7
    rw [if_pos (by simp)]
    unfold ze6
    have:zB7 (_root_.SizeOf.sizeOf zaE8.expr+1) zaE8.expr zaE8.expr=some true:=zaL5 _ _ (Nat.lt_succ_self _) (by show zn0 zba2≤24; rw [zcH5]; decide)
    rw [this,Option.bind_some]
    simp
   rw [if_neg (by simp),zae7 1 (fun i hi=>by
    have:i=0:=by omega
    subst this
    unfold zj0
    rw [if_pos (by decide),gdp (by decide),gdp (by decide)]
    show (ze7 zaE8 zaE8).bind _=_
    rw [sn]
    rfl) (by unfold zj0; rfl)]
   rfl
  rw [q,Option.bind_some,if_pos rfl,n]
  rfl
 have hP:zv5 zG7=some [zbl8]:=by
  rw [zaL4 zG7 (by decide) (by decide)]
  rfl
 unfold zT5
 rw [hp,Option.bind_some]
 show (zv6 zG7).bind _=_
 rw [hE,Option.bind_some]
 simp only [hD,Option.bind_some,hN,hG,decide_true,Bool.and_self,if_true]
 show (zs6 zG7 zG7).bind _=_
 rw [hS,Option.bind_some]
 simp only [Bool.and_self,if_true,zW4,zbu0,Option.bind_some]
 rw [gdp (by simp)]
 simp [hP]
def zdd2 (nm:ByteArray) (h:Hold):Event:=⟨1,h.proc,nm,h.amount⟩
def zaj0 (nm:ByteArray) (l:List Hold):List Event:=l.map (zdd2 nm)
def zbS0 (p:Proc) (nm:ByteArray) (a:Amount):Event:=⟨3,p,nm,a⟩
theorem zaB7 (nm:ByteArray) (l:List Hold) (hl:l.length≤1000000):zf8 nm l=some (zaj0 nm l):=by
 unfold zf8
 rw [zaE6 l Hold.zero (zdd2 nm) [] hl (by simp) (fun i s hi hs=>by
  unfold zai1
  have h3:0≤(i:Int)∧(i:Int) < (l.length:Int):=by omega
  have h1:s.length+1≤4294967296:=by omega
  simp only [h1,h3.1,h3.2,and_self,implies_true,zm3,decide_true,if_true,Int.toNat_natCast,zc4 i (show i < 4611686018427387904 by omega)]
  rfl) (fun s=>by unfold zai1; simp)]
 rfl
def zbS1 (t:List Queue) (i:Int) (q:Queue):List Queue:=if 0≤i then t.set i.toNat q else t
def Lens (t:List Queue):Prop:=∀ q ∈ t,q.holds.length≤1000∧q.converts.length≤1000∧q.waits.length≤1000
theorem zaA5 (t:List Queue) (i:Int) (q:Queue) (hl:t.length≤1000) (h0:0≤i) (hi:i < t.length):zf3 t i q=some (zbS1 t i q):=by
 unfold zf3 zbS1
 rw [zg7 (by omega),zg7 (by omega),if_pos h0]
theorem ValidT.lens {t:List Queue} (h:ValidT t):Lens t:=fun q hq=>by
 have:=zag4 (h.each q hq)
 omega
abbrev ResT:=List Queue×List Event×Int
def errT (e:Int):ResT:=([],[],e)
def putT (t:List Queue) (nm:ByteArray) (x:Queue×List Hold×Int) (ev:List Event):ResT:=if x.2.2=0 then (zbS1 t (zz5 t nm) x.1,ev++zaj0 nm x.2.1,0) else errT x.2.2
def atT (t:List Queue) (nm:ByteArray) (f:Queue→ResT):ResT:=if zaF8 t=false then errT 2 else if zz5 t nm < 0 then errT 10 else f (t.getD (zz5 t nm).toNat Queue.zero)
def zba3 (t:List Queue) (p:Proc):Bool:=decide (8≤(zC2 t).length)&&!decide (p ∈ zC2 t)
def zaA6 (t:List Queue) (p:Proc) (a:Atom) (pr:Int):ResT:=atT t a.name fun q=>if zba3 t p=true then errT 4 else putT t a.name (zW2 q p a.amount pr) []
def zaH2 (t:List Queue) (p:Proc) (nm:ByteArray):ResT:=atT t nm fun q=>putT t nm (zF1 q p) []
def zaa9 (t:List Queue) (p:Proc) (a:Atom):ResT:=atT t a.name fun q=>putT t a.name (zC8 q p a.amount) (if getH q.holds p=a.amount then [] else [zbS0 p a.name a.amount])
theorem nd0 {P:Prop} [Decidable P] (h:P):¬ ((!decide P)=true):=by simp [h]
theorem nd1 {P:Prop} [Decidable P] (h:¬ P):(!decide P)=true:=by simp [h]
theorem zaX3 {t:List Queue} {nm:ByteArray} (h:¬ zz5 t nm < 0):0≤zz5 t nm∧zz5 t nm < t.length:=by
 rcases zaL0 (t:=t) (nm:=nm) with h1|⟨i,h1,h2,_⟩
 ·omega
 ·omega
theorem zch9 {t:List Queue} (h:ValidT t) {nm:ByteArray} (hf:¬ zz5 t nm < 0):zk0 (t.getD (zz5 t nm).toNat Queue.zero)=true:=by
 have:=zaX3 hf
 exact h.each _ (zj8 (by omega))
theorem zbS2 (t:List Queue) (p:Proc) (a:Atom) (pr:Int):zaa6 t p a pr=some (zaA6 t p a pr):=by
 unfold zaa6 zaA6 atT
 rw [zal1,Option.bind_some]
 cases hv:zaF8 t with
 | false=>rfl
 | true =>
  have h:=(zag5 t).1 hv
  have hl:=h.len
  have hpl:=h.procs
  rw [ifNT,ifTF,zP1 _ _ (by omega),Option.bind_some]
  by_cases hf:zz5 t a.name < 0
  ·rw [if_pos (decide_eq_true hf),if_pos hf]; rfl
  ·have hr:=zaX3 hf
   have hsh:=zbt1 (t.getD (zz5 t a.name).toNat Queue.zero) p a.amount pr
   rw [if_neg (by rw [decide_eq_true_eq]; exact hf),if_neg hf,zax4 hl h.each,Option.bind_some,zaT4 _ _ (by omega)]
   have e8:decide (((zC2 t).length:Int)=8)=decide (8≤(zC2 t).length):=by rw [decide_eq_decide]; omega
   rw [e8]
   have hfu:zba3 t p=(decide (8≤(zC2 t).length)&&!decide (p ∈ zC2 t)):=rfl
   have hb2:((if decide (8≤(zC2 t).length)=true then some (decide (p ∈ zC2 t)) else some false):Option Bool).bind (fun v4=>if (decide (8≤(zC2 t).length)&&!v4)=true then some (([],[],4):ResT) else gd (0≤zz5 t a.name∧zz5 t a.name < (t.length:Int)) <| (zI6 (t.getD (zz5 t a.name).toNat Queue.zero) p a.amount pr).bind fun v5=>if (!decide (v5.2.2=0))=true then some (([],[],v5.2.2):ResT) else (zf3 t (zz5 t a.name) v5.1).bind fun v6=>(zf8 a.name v5.2.1).bind fun v7=>some ((v6,v7,0):ResT)) =
     if zba3 t p=true then some (errT 4) else gd (0≤zz5 t a.name∧zz5 t a.name < (t.length:Int)) <| (zI6 (t.getD (zz5 t a.name).toNat Queue.zero) p a.amount pr).bind fun v5=>if (!decide (v5.2.2=0))=true then some (([],[],v5.2.2):ResT) else (zf3 t (zz5 t a.name) v5.1).bind fun v6=>(zf8 a.name v5.2.1).bind fun v7=>some ((v6,v7,0):ResT):=by
    rw [hfu]
    by_cases h8:8≤(zC2 t).length
    ·simp only [h8,decide_true,if_true,Option.bind_some,Bool.true_and]; rfl
    ·simp only [h8,decide_false,Bool.false_eq_true,if_false,Option.bind_some,Bool.false_and]
   refine Eq.trans hb2 ?_
   cases hfu2:zba3 t p with
   | true=>rfl
   | false =>
    rw [ifFT,zg7 (by omega),zbP6,Option.bind_some]
    unfold putT
    simp only [Bool.false_eq_true,if_false]
    by_cases e:(zW2 (t.getD (zz5 t a.name).toNat Queue.zero) p a.amount pr).2.2=0
    ·rw [if_neg (nd0 e),if_pos e,zaA5 _ _ _ (by omega) (by omega) (by omega),Option.bind_some,zaB7 _ _ (by have:=hsh.2.2.2; omega)]; rfl
    ·rw [if_pos (nd1 e),if_neg e]; rfl
theorem zbF6 (t:List Queue) (p:Proc) (nm:ByteArray):zV6 t p nm=some (zaH2 t p nm):=by
 unfold zV6 zaH2 atT
 rw [zal1,Option.bind_some]
 cases hv:zaF8 t with
 | false=>rfl
 | true =>
  have h:=(zag5 t).1 hv
  have hl:=h.len
  rw [ifNT,ifTF,zP1 _ _ (by omega),Option.bind_some]
  by_cases hf:zz5 t nm < 0
  ·rw [if_pos (decide_eq_true hf),if_pos hf]; rfl
  ·have hr:=zaX3 hf
   have hsh:=zbl6 (t.getD (zz5 t nm).toNat Queue.zero) p
   rw [if_neg (by rw [decide_eq_true_eq]; exact hf),if_neg hf,zg7 (by omega),zbF4,Option.bind_some]
   unfold putT
   dsimp only
   by_cases e:(zF1 (t.getD (zz5 t nm).toNat Queue.zero) p).2.2=0
   ·rw [if_neg (nd0 e),if_pos e,zaA5 _ _ _ (by omega) (by omega) (by omega),Option.bind_some,zaB7 _ _ (by have:=hsh.2.2.2; omega)]; rfl
   ·rw [if_pos (nd1 e),if_neg e]; rfl
theorem zaL6 (t:List Queue) (p:Proc) (a:Atom):zI5 t p a=some (zaa9 t p a):=by
 unfold zI5 zaa9 atT
 rw [zal1,Option.bind_some]
 cases hv:zaF8 t with
 | false=>rfl
 | true =>
  have h:=(zag5 t).1 hv
  have hl:=h.len
  rw [ifNT,ifTF,zP1 _ _ (by omega),Option.bind_some]
  by_cases hf:zz5 t a.name < 0
  ·rw [if_pos (decide_eq_true hf),if_pos hf]; rfl
  ·have hr:=zaX3 hf
   have hs:=zch9 h hf
   have hql:=zag4 hs
   have hsh:=zaW5 (t.getD (zz5 t a.name).toNat Queue.zero) p a.amount
   rw [if_neg (by rw [decide_eq_true_eq]; exact hf),if_neg hf,zg7 (by omega),zG0 _ _ (by omega),Option.bind_some,zg7 (by omega),zbP7,Option.bind_some]
   unfold putT
   have k1:∀ ev:List Event,ev.length≤1→(zC8 (t.getD (zz5 t a.name).toNat Queue.zero) p a.amount).2.2=0→zU5 t a (zz5 t a.name) (zC8 (t.getD (zz5 t a.name).toNat Queue.zero) p a.amount) ev=some (zbS1 t (zz5 t a.name) (zC8 (t.getD (zz5 t a.name).toNat Queue.zero) p a.amount).1,ev++zaj0 a.name (zC8 (t.getD (zz5 t a.name).toNat Queue.zero) p a.amount).2.1,0):=fun ev hev e=>by
    unfold zU5
    have hg:(zaj0 a.name (zC8 (t.getD (zz5 t a.name).toNat Queue.zero) p a.amount).2.1).length≤16:=by unfold zaj0; rw [List.length_map]; exact hsh.2.2.2
    rw [zaA5 _ _ _ (by omega) (by omega) (by omega),Option.bind_some,zaB7 _ _ (by have:=hsh.2.2.2; omega),Option.bind_some,zg7 (by omega)]
   dsimp only
   by_cases e:(zC8 (t.getD (zz5 t a.name).toNat Queue.zero) p a.amount).2.2=0
   ·rw [if_neg (nd0 e),if_pos e]
    by_cases e2:getH (t.getD (zz5 t a.name).toNat Queue.zero).holds p=a.amount
    ·rw [if_neg (nd0 e2),if_pos e2,k1 [] (by simp) e]
    ·rw [if_pos (nd1 e2),if_neg e2,zg7 (by decide),k1 _ (by simp) e]; rfl
   ·rw [if_pos (nd1 e),if_neg e]; rfl
end Ab
end Go.Proofs.YtcggeefhhegeoaaGreatDoor
