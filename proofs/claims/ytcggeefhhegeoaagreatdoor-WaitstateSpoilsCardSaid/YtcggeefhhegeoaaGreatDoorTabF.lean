import Derived.Test.YtcggeefhhegeoaaGreatDoorWsJ
import Derived.Test.YtcggeefhhegeoaaGreatDoorTabB
import Derived.Test.YtcggeefhhegeoaaGreatDoorHm31
namespace Go.Proofs.YtcggeefhhegeoaaGreatDoor
namespace Ab
set_option linter.unusedVariables false
set_option linter.unusedSimpArgs false
theorem zcU6 {G X:Type} {body:G→Option (G⊕X)} (I:G→Prop) (Post:X→Prop) (h:∀ g,I g→(∀ g',body g=some (.inl g')→I g')∧(∀ x,body g=some (.inr x)→Post x)) {g:G} {x:X} (hg:I g) (hx:zc0 body g=some x):Post x:=by
 obtain ⟨n,hn⟩:=zT2.1 hx
 induction n generalizing g with
 | zero=>cases hn
 | succ n ih =>
  simp only [iter] at hn
  cases hb:body g with
  | none=>rw [hb] at hn; cases hn
  | some y =>
   rw [hb] at hn
   cases y with
   | inl g'=>exact ih ((h g hg).1 g' hb) (zT2.2 ⟨n,hn⟩) hn
   | inr x'=>cases hn; exact (h g hg).2 _ hb
theorem zdG7 {x y:Int} (h0:0≤y) (h1:y < 18446744073709551616):y≤zA9 .or .u64 x y:=by
 have e:(BitVec.ofInt 64 y).toNat=y.toNat:=by
  rw [BitVec.toNat_ofInt]
  have:y % ((2 ^ 64:Nat):Int)=y:=Int.emod_eq_of_lt h0 (by omega)
  rw [this]
 have hlt:=(BitVec.ofInt 64 x ||| BitVec.ofInt 64 y).isLt
 have hor:y.toNat≤(BitVec.ofInt 64 x ||| BitVec.ofInt 64 y).toNat:=by
  rw [BitVec.toNat_or,e]; exact Nat.right_le_or
 show y≤IntKind.u64.wrap (((BitVec.ofInt 64 x ||| BitVec.ofInt 64 y).toNat:Nat):Int)
 rw [zX4 _ (by omega) (by omega)]
 omega
theorem zdk3 {a:List Int} (ha:zD7 a) (i:Nat) (v:Int) (hi:i < 10) (hl:i < a.length):zC3 a (v,(i:Int)) =
  if ((decide ((i:Int)=9)&&decide (1 < a.getD i 0))||(decide (a.getD i 0=0)&&decide (0 < (i:Int))))=true then some (.inr (.inr (0,0,6)))
  else if a.getD i 0 < 128 then some (.inr (.inr (zA9 .or .u64 v (IntKind.u64.wrap ((a.getD i 0 % 128) * 2 ^ (7 * i))),((i+1:Nat):Int),0)))
  else some (.inl (zA9 .or .u64 v (IntKind.u64.wrap ((a.getD i 0 % 128) * 2 ^ (7 * i))),((i+1:Nat):Int))):=by
 have hc:=ha.getD i
 have hw:IntKind.i64.wrap (7 * (i:Int))=((7 * i:Nat):Int):=by rw [zd2 (by omega) (by omega)]; omega
 have hw2:IntKind.u64.wrap ((7 * i:Nat):Int)=((7 * i:Nat):Int):=zX4 _ (by omega) (by omega)
 have hmin:Nat.min (7 * i) IntKind.u64.bits=7 * i:=fS (by show 7 * i≤64; omega)
 unfold zC3
 simp only
 rw [bY (by simp; omega),bW (by simp; omega),gdp (by omega),zd0 i (by omega),hw,hw2]
 simp only [Int.toNat_natCast]
 rw [gdp (by omega),hmin,zbE3 hc.1 hc.2,zX4 (a.getD i 0 % 128) (by omega) (by omega)]
 simp only [cB]
def PreU (a:List Int) (i v:Nat):Prop:=v < 2 ^ (7 * i)∧∀ (m:Nat) (rest:List Int),(i=0∨1≤m)→a.drop i=encU m++rest→a=encU (v+m * 2 ^ (7 * i))++rest
theorem zcU7 {a:List Int} {i v c:Nat} (h:PreU a i v) (hl:i < a.length) (hc:a.getD i 0=(c:Int)) (h1:128≤c) (h2:c < 256):PreU a (i+1) (v+c % 128 * 2 ^ (7 * i)):=by
 have hp:2 ^ (7 * (i+1))=128 * 2 ^ (7 * i):=by rw [Nat.mul_add,Nat.pow_add,iI]
 obtain ⟨hv,hr⟩:=h
 refine ⟨?_,fun m rest hm hd=>?_⟩
 ·rw [hp]
  have:c % 128 * 2 ^ (7 * i)≤127 * 2 ^ (7 * i):=dE _ (by omega)
  omega
 ·have hm1:1≤m:=by omega
  have hdr:a.drop i=encU (c % 128+128 * m)++rest:=by
   rw [zaq9 a i 0 hl,hc,hd,zba9 (show ¬ c % 128+128 * m < 128 by omega)]
   have e1:(c % 128+128 * m) % 128+128=c:=by omega
   have e2:(c % 128+128 * m) / 128=m:=by omega
   rw [e1,e2]; rfl
  have:=hr (c % 128+128 * m) rest (.inr (by omega)) hdr
  rw [this,hp]
  congr 2
  rw [dO,fK,iI 128 m,Nat.mul_assoc]
theorem zbE5 {a:List Int} (ha:zD7 a) {v n:Int} (h:zk9 a=some (v,n,0)) (hv:v < 34359738368):0≤v∧0≤n∧n≤a.length∧a=encU v.toNat++a.drop n.toNat:=by
 unfold zk9 at h
 obtain ⟨x,hx,h⟩:=zc2 h
 have key:=zcU6 (body:=zC3 a) (fun g=>∃ (i w:Nat),g=((w:Int),(i:Int))∧i≤10∧(i≤4→PreU a i w))
  (fun x=>∀ v n:Int,x=.inr (v,n,0)→v < 34359738368→0≤v∧0≤n∧n≤a.length∧a=encU v.toNat++a.drop n.toNat) (fun g ⟨i,w,hg,hi,hP⟩=>by
   subst hg
   by_cases c10:i < 10
   ·by_cases cl:i < a.length
    ·rw [zdk3 ha i w c10 cl]
     have hcb:=ha.getD i
     obtain ⟨c,hc⟩:∃ c:Nat,a.getD i 0=(c:Int):=⟨(a.getD i 0).toNat,by omega⟩
     rw [hc] at hcb ⊢
     have hor:∃ u:Nat,zA9 .or .u64 (w:Int) (IntKind.u64.wrap (((c:Int) % 128) * 2 ^ (7 * i)))=(u:Int):=⟨(zA9 .or .u64 (w:Int) (IntKind.u64.wrap (((c:Int) % 128) * 2 ^ (7 * i)))).toNat,by
      have:0≤zA9 .or .u64 (w:Int) (IntKind.u64.wrap (((c:Int) % 128) * 2 ^ (7 * i))):=by simp only [zA9]; rw [IntKind.wrap_u64]; omega
      omega⟩
     have hjoin:i≤4→zA9 .or .u64 (w:Int) (IntKind.u64.wrap (((c:Int) % 128) * 2 ^ (7 * i)))=((w+c % 128 * 2 ^ (7 * i):Nat):Int):=fun h4=>by
      have hw:=(hP h4).1
      have:=zcn4 (7 * i) (by omega) (v:=(w:Int)) (c:=(c:Int) % 128) (by omega) (by exact_mod_cast hw) (by omega) (by omega)
      rw [this]
      push_cast
      rfl
     by_cases b1:((decide ((i:Int)=9)&&decide ((1:Int) < (c:Int)))||(decide ((c:Int)=0)&&decide (0 < (i:Int))))=true
     ·rw [bY b1]
      exact ⟨fun g' h=>(by cases h),fun x h v n hx=>by cases h; cases hx⟩
     ·rw [bW b1]
      by_cases b2:(c:Int) < 128
      ·rw [bY b2]
       refine ⟨fun g' h=>(by cases h),fun x h v n hx hv=>?_⟩
       simp only [cV,Sum.inr.injEq] at h
       rw [← h] at hx
       simp only [Sum.inr.injEq,iC] at hx
       obtain ⟨e1,e2,_⟩:=hx
       have hcz:i=0∨1≤c:=by
        simp only [dY,bX,cB,jQ,not_and] at b1
        omega
       by_cases h4:i≤4
       ·rw [hjoin h4] at e1
        have hdr:a.drop i=encU c++a.drop (i+1):=by rw [zaq9 a i 0 cl,hc,zaK8 (by omega)]; rfl
        have:=(hP h4).2 c (a.drop (i+1)) hcz hdr
        rw [← e1,← e2]
        refine ⟨by omega,by omega,by omega,?_⟩
        simp only [Int.toNat_natCast]
        rw [show c % 128=c by omega]
        exact this
       ·exfalso
        have hge:34359738368≤v:=by
         rw [← e1]
         have hc1:1≤c:=by omega
         have hc9:i=9→c≤1:=fun e=>by
          simp only [dY,bX,cB,jQ,not_and] at b1
          omega
         have big:∀ y:Int,y=((c:Int) % 128) * 2 ^ (7 * i)→34359738368≤y→y < 18446744073709551616→34359738368≤zA9 .or .u64 (w:Int) (IntKind.u64.wrap (((c:Int) % 128) * 2 ^ (7 * i))):=fun y hy h5 h6=>by
          rw [← hy,zX4 y (by omega) (by omega)]
          exact Int.le_trans h5 (zdG7 (by omega) h6)
         have hi5:i=5∨i=6∨i=7∨i=8∨i=9:=by omega
         refine big _ rfl ?_ ?_
         ·rcases hi5 with rfl|rfl|rfl|rfl|rfl <;> omega
         ·rcases hi5 with rfl|rfl|rfl|rfl|rfl
          ·omega
          ·omega
          ·omega
          ·omega
          ·have:=hc9 rfl; omega
        omega
      ·rw [bW b2]
       refine ⟨fun g' h=>?_,fun x h=>(by cases h)⟩
       simp only [cV,eW] at h
       subst h
       by_cases h4:i≤4
       ·refine ⟨i+1,w+c % 128 * 2 ^ (7 * i),by rw [hjoin h4],by omega,fun _=>zcU7 (hP h4) cl hc (by omega) (by omega)⟩
       ·obtain ⟨u,hu⟩:=hor
        exact ⟨i+1,u,by rw [hu],by omega,fun h=>absurd h (by omega)⟩
    ·have:zC3 a ((w:Int),(i:Int))=some (.inr (.inr (0,0,5))):=by
      unfold zC3
      rw [bY (by simp; omega),bY (by simp; omega)]
     rw [this]
     exact ⟨fun g' h=>(by cases h),fun x h v n hx=>by cases h; cases hx⟩
   ·have:zC3 a ((w:Int),(i:Int))=some (.inr (.inl ())):=by
     unfold zC3
     rw [bW (by simp; omega)]
    rw [this]
    exact ⟨fun g' h=>(by cases h),fun x h v n hx=>by cases h; cases hx⟩) (g:=(0,0)) ⟨0,0,rfl,by omega,fun _=>⟨by decide,fun m rest _ hd=>by simpa using hd⟩⟩ hx
 cases x with
 | inl z=>cases h
 | inr y =>
  have hy:y=(v,n,0):=dN h
  exact key v n (by rw [hy]) hv
def encI (x:Int):List Int:=encU x.toNat
def encT (s:ByteArray):List Int:=encU s.size++s.toList.map fun b=>(b.toNat:Int)
def encP (p:aJ):List Int:=encI p.site++encI p.inc++encI p.num
def encA (a:aC):List Int:=encI a.mode++encI a.aT
mutual
def encE:aN→List Int
 | ⟨k,a,ks⟩=>encI k++(if k=0 then encT a.name++encA a.aK else encI (ks.length:Int)++zcx5 ks)
def zcx5:List aN→List Int
 | []=>[]
 | k :: l=>encE k++zcx5 l
end
theorem zbm8 (e:aN):encE e=encI e.k++(if e.k=0 then encT e.bF.name++encA e.bF.aK else encI (e.bE.length:Int)++e.bE.flatMap encE):=by
 have:∀ l,zcx5 l=l.flatMap encE:=by
  intro l
  induction l with
  | nil=>rw [zcx5]; rfl
  | cons x l ih=>rw [zcx5,ih]; rfl
 cases e
 rw [encE,this]
def encH (h:aY):List Int:=encP h.aP++encA h.aK
def encC (w:aX):List Int:=encP w.aP++encA w.aK
def encW (w:aX):List Int:=encP w.aP++encA w.aK++encI w.bH++encI w.bR
def encQ (q:aB):List Int:=encT q.aA.name++(encI q.aA.kind++(encI q.aA.aT++(encI q.aA.home++(encI q.gen++(encI (q.aS.length:Int)++(q.aS.flatMap encH++(encI (q.aI.length:Int)++(q.aI.flatMap encC++(encI (q.aV.length:Int)++q.aV.flatMap encW)))))))))
def encN (n:bN):List Int:=encP n.aP++(encI n.gen++encE n.bS)
def encS (s:aL):List Int:=encI (s.aF.length:Int)++(s.aF.flatMap encQ++(encI (s.bB.length:Int)++s.bB.flatMap encN))
theorem zD7.app {a b:List Int} (ha:zD7 a) (hb:zD7 b):zD7 (a++b):=fun x hx=>by
 rcases cU.1 hx with h|h
 ·exact ha x h
 ·exact hb x h
theorem zD7.nil:zD7 []:=fun x hx=>by cases hx
theorem zD7.flat {α:Type} {f:α→List Int} (h:∀ x,zD7 (f x)) (l:List α):zD7 (l.flatMap f):=fun x hx=>by
 obtain ⟨a,_,ha⟩:=eZ.1 hx
 exact h a x ha
theorem zC2 (x:Int):zD7 (encI x):=zbt8 _
theorem zbX1 (s:ByteArray):zD7 (encT s):=(zbt8 _).app fun x hx=>by
 obtain ⟨b,_,rfl⟩:=cR.1 hx
 have:=b.toNat_lt
 omega
theorem zbb0 (p:aJ):zD7 (encP p):=((zC2 _).app (zC2 _)).app (zC2 _)
theorem zbb1 (a:aC):zD7 (encA a):=(zC2 _).app (zC2 _)
theorem zbk1:∀ (n:Nat) (e:aN),_root_.SizeOf.sizeOf e < n→zD7 (encE e)
 | 0,_,h=>by omega
 | n+1,e,h=>by
  rw [zbm8]
  refine (zC2 _).app ?_
  split
  ·exact (zbX1 _).app (zbb1 _)
  ·refine (zC2 _).app fun x hx=>?_
   obtain ⟨k,hk,hx⟩:=eZ.1 hx
   exact zbk1 n k (zao4 h hk) x hx
theorem zcF8 (e:aN):zD7 (encE e):=zbk1 _ e (eC _)
theorem zcF9 (h:aY):zD7 (encH h):=(zbb0 _).app (zbb1 _)
theorem zcG0 (h:aX):zD7 (encC h):=(zbb0 _).app (zbb1 _)
theorem zcG1 (h:aX):zD7 (encW h):=(((zbb0 _).app (zbb1 _)).app (zC2 _)).app (zC2 _)
theorem zcG2 (q:aB):zD7 (encQ q) :=
 (zbX1 _).app ((zC2 _).app ((zC2 _).app ((zC2 _).app ((zC2 _).app ((zC2 _).app ((zD7.flat zcF9 _).app ((zC2 _).app ((zD7.flat zcG0 _).app ((zC2 _).app (zD7.flat zcG1 _))))))))))
theorem zcG3 (n:bN):zD7 (encN n):=(zbb0 _).app ((zC2 _).app (zcF8 _))
theorem zbX2 (s:aL):zD7 (encS s):=(zC2 _).app ((zD7.flat zcG2 _).app ((zC2 _).app (zD7.flat zcG3 _)))
abbrev D (r:List Int):aU:=⟨⟨r,0⟩⟩
def okI (x:Int):Prop:=0≤x∧x≤1073741824
theorem Src.right {a b:List Int} (h:Src (a++b)):Src b:=⟨fun x hx=>h.bytes x (cU.2 (.inr hx)),by have:=h.len; rw [cA] at this; omega⟩
theorem zbm9 {x:Int} (h:okI x) {r:List Int} (hr:Src (encI x++r)):zi6 (encI x++r)=some (x,((encI x).length:Int),0):=by
 have hb:=hr.right.bytes
 unfold encI
 obtain ⟨h0,h1⟩:=h
 rw [zcx4 (by omega) hb]
 rw [iB h0]
theorem zbI6 {lim over x:Int} (h0:0≤x) (h1:x≤lim) (h2:lim≤1073741824) {r:List Int} (hr:Src (encI x++r)):zb7 lim over (D (encI x++r))=some (x,D r):=by
 unfold zb7
 rw [bW (by simp),zbm9 ⟨h0,by omega⟩ hr,Option.bind_some,zX4 lim (by omega) (by omega),bW (by simp; omega)]
 unfold zr4
 rw [bW (by simp),gdp (by simp; omega)]
 simp only [zd2 (x:=x) (by omega) (by omega),Int.toNat_natCast,gW]
theorem zaE0 {lim x:Int} (h0:0≤x) (h1:x≤lim) (h2:lim≤1073741824) {r:List Int} (hr:Src (encI x++r)):zb9 lim (D (encI x++r))=some (x,D r):=by
 unfold zb9
 rw [zbI6 h0 h1 h2 hr]; rfl
theorem zS6 {x:Int} (h:okI x) {r:List Int} (hr:Src (encI x++r)):za9 (D (encI x++r))=some (x,D r):=by
 unfold za9
 rw [zbI6 h.1 h.2 (by decide) hr]; rfl
theorem zcb4 (s:ByteArray):zam3 (s.toList.map fun b=>(b.toNat:Int))=s:=by
 have:(s.toList.map fun b=>(b.toNat:Int)).map (fun n=>UInt8.ofNat n.toNat)=s.data.toList:=by
  rw [jP,ByteArray.toList_eq]
  conv=>rhs; rw [← List.map_id s.data.toList]
  refine iV fun b _=>?_
  simp
 unfold zam3
 rw [this]
theorem zaP0 (s:ByteArray):s.toList.length=s.size:=by rw [ByteArray.toList_eq]; rfl
theorem zcg8 {s:ByteArray} (h:s.size≤1024) {r:List Int} (hr:Src (encT s++r)):zc7 (D (encT s++r))=some (s,D r):=by
 have hl:(s.toList.map fun b=>(b.toNat:Int)).length=s.size:=by rw [dW,zaP0]
 have hlen:=zaX6 4 s.size (by omega)
 have hr2:=hr.len
 have hr3:(encT s++r).length=(encU s.size).length+(s.size+r.length):=by unfold encT; rw [cA,cA,hl]; omega
 have ht:zn4 (encT s++r)=some (s,((encT s).length:Int),0):=by
  unfold zn4
  unfold encT at hr ⊢
  rw [cG] at hr ⊢
  rw [zcx4 (by omega) hr.right.bytes,Option.bind_some]
  rw [bW (by simp),bW (by simp; omega)]
  simp only
  have w1:IntKind.i64.wrap (s.size:Int)=(s.size:Int):=zd2 (by omega) (by omega)
  have w2:IntKind.i64.wrap (((encU s.size).length:Int)+(s.size:Int))=((encU s.size).length+s.size:Nat):=by rw [zd2 (by omega) (by omega)]; omega
  have e1:(encU s.size++((s.toList.map fun b=>(b.toNat:Int))++r)).length=(encU s.size).length+(s.size+r.length):=by rw [cA,cA,hl]
  rw [w1,w2,e1,zd2 (by omega) (by omega),bW (by simp; omega),gdp (by omega)]
  simp only [Int.toNat_natCast]
  rw [List.take_append,dV (by omega),show (encU s.size).length+s.size - (encU s.size).length=s.size by omega,gW,List.take_append,dV (by omega),hl,gT,List.take_zero,dX,zcb4]
  congr 3
  rw [cA,hl]
 unfold zc7
 rw [bW (by simp),ht,Option.bind_some,bW (by simp),gdp (by simp; omega)]
 simp only [Int.toNat_natCast,gW]
theorem zbb2 {p:aJ} (h:zb2 p=true):okI p.site∧okI p.inc∧okI p.num:=by
 unfold zb2 zF3 at h
 simp only [bX,cB] at h
 unfold okI
 omega
theorem zbn0 {p:aJ} (h:zb2 p=true) {r:List Int} (hr:Src (encP p++r)):zd1 (D (encP p++r))=some (p,D r):=by
 obtain ⟨k1,k2,k3⟩:=zbb2 h
 have hlen:∀ x:Int,okI x→(encI x).length≤5:=fun x hx=>(zaX6 4 x.toNat (by have:=hx.1; have:=hx.2; omega)).2
 have l1:=hlen _ k1
 have l2:=hlen _ k2
 have l3:=hlen _ k3
 have hr0:=hr.len
 have ht:zo9 (encP p++r)=some (p,((encP p).length:Int),0):=by
  have hr':=hr
  unfold encP at hr' ⊢
  rw [cG,cG] at hr' ⊢
  have s2:=hr'.right
  have s3:=s2.right
  have hn:∀ x:Int,okI x→IntKind.i64.wrap (if 1073741824 < x then 1073741824 else x)=x:=fun x hx=>by rw [bW (by have:=hx.2; omega),zd2 (by have:=hx.1; omega) (by have:=hx.2; omega)]
  have hlen0:(encI p.site++(encI p.inc++(encI p.num++r))).length=(encI p.site).length+((encI p.inc).length+((encI p.num).length+r.length)):=by simp
  have hrl:=hr.right.len
  have t1:zq0 (encI p.site++(encI p.inc++(encI p.num++r))) (0,0,Arr.rep 3 0)=some (.inl (((encI p.site).length:Int),1,Arr.put (Arr.rep 3 0) 0 p.site)):=by
   unfold zq0
   simp only [Int.toNat_zero,fP]
   rw [bY (by decide),gdp (by omega),zbm9 k1 hr',Option.bind_some,bW (by simp),gdp (by decide)]
   simp only [hn _ k1]
   rw [zd2 (by omega) (by omega),Int.zero_add]
   rfl
  have t2:∀ z,zq0 (encI p.site++(encI p.inc++(encI p.num++r))) (((encI p.site).length:Int),1,z)=some (.inl (((encI p.site).length:Int)+((encI p.inc).length:Int),2,Arr.put z 1 p.inc)):=by
   intro z
   unfold zq0
   simp only [Int.toNat_natCast,gW]
   rw [bY (by simp),gdp (by omega),zbm9 k2 s2,Option.bind_some,bW (by simp),gdp (by decide)]
   simp only [hn _ k2]
   rw [zd2 (by omega) (by omega)]
   rfl
  have t3:∀ z,zq0 (encI p.site++(encI p.inc++(encI p.num++r))) (((encI p.site).length:Int)+((encI p.inc).length:Int),2,z)=some (.inl (((encI p.site).length:Int)+((encI p.inc).length:Int)+((encI p.num).length:Int),3,Arr.put z 2 p.num)):=by
   intro z
   unfold zq0
   have hd:(encI p.site++(encI p.inc++(encI p.num++r))).drop (((encI p.site).length:Int)+((encI p.inc).length:Int)).toNat=encI p.num++r:=by
    rw [show (((encI p.site).length:Int)+((encI p.inc).length:Int)).toNat=(encI p.site).length+(encI p.inc).length by omega,← eQ,gW,gW]
   simp only [hd]
   rw [bY (by simp),gdp (by omega),zbm9 k3 s3,Option.bind_some,bW (by simp),gdp (by decide)]
   simp only [hn _ k3]
   rw [zd2 (by omega) (by omega)]
   rfl
  have t4:∀ (i:Int) z,zq0 (encI p.site++(encI p.inc++(encI p.num++r))) (i,3,z)=some (.inr (.inl (i,z))):=fun i z=>by
   unfold zq0
   rw [bW (by simp)]
  unfold zo9
  rw [ze0,t1]
  simp only
  rw [ze0,t2]
  simp only
  rw [ze0,t3]
  simp only
  rw [ze0,t4]
  simp only [Option.bind_some]
  unfold zaj5
  have g:∀ x y z:Int,(⟨Arr.get (Arr.put (Arr.put (Arr.put (Arr.rep 3 0) 0 x) 1 y) 2 z) 0 0,Arr.get (Arr.put (Arr.put (Arr.put (Arr.rep 3 0) 0 x) 1 y) 2 z) 1 0,Arr.get (Arr.put (Arr.put (Arr.put (Arr.rep 3 0) 0 x) 1 y) 2 z) 2 0⟩:aJ)=⟨x,y,z⟩:=fun _ _ _=>rfl
  simp only [g]
  rw [bW (by simpa using h)]
  congr 3
  simp only [cA]; omega
 unfold zd1
 have:(encP p++r).length=(encP p).length+r.length:=cA
 rw [bW (by simp),ht,Option.bind_some,bW (by simp),gdp (by simp only; omega)]
 simp only [Int.toNat_natCast,gW]
theorem zaR8 {a:aC} (h1:okI a.mode) (h2:okI a.aT) {r:List Int} (hr:Src (encA a++r)):zc3 (D (encA a++r))=some (a,D r):=by
 unfold zc3
 unfold encA at hr ⊢
 rw [cG] at hr ⊢
 rw [zS6 h1 hr,Option.bind_some,zS6 h2 hr.right]
 rfl
theorem zaE1 {α Q:Type} {body:Int×aU×Q→Option ((Int×aU×Q)⊕(aU×Q))} {enc:α→List Int} {ok:α→Prop} (R:List α→Q)
  (hs:∀ (n:Int) x rest pre,ok x→Src (enc x++rest)→0 < n→n≤100→pre.length≤100→body (n,D (enc x++rest),R pre)=some (.inl (n - 1,D rest,R (pre++[x]))))
  (he:∀ d q,body (0,d,q)=some (.inr (d,q))):∀ (l pre:List α) (rest:List Int),(∀ x ∈ l,ok x)→Src (l.flatMap enc++rest)→pre.length+l.length≤100 →
   zc0 body ((l.length:Int),D (l.flatMap enc++rest),R pre)=some (D rest,R (pre++l))
 | [],pre,rest,_,_,_=>by
  have e:body ((([]:List α).length:Int),D (([]:List α).flatMap enc++rest),R pre)=some (.inr (D rest,R pre)):=he _ _
  rw [ze0,e,dX]
 | x :: l,pre,rest,h,hr,hl=>by
  rw [fD,cG] at hr ⊢
  simp only [List.length_cons] at hl ⊢
  rw [ze0,hs _ x _ pre (h x (.head _)) hr (by omega) (by omega) (by omega)]
  simp only
  have:=zaE1 R hs he l (pre++[x]) rest (fun y hy=>h y (.tail _ hy)) hr.right (by simp; omega)
  rw [show (((l.length+1:Nat):Int) - 1)=(l.length:Int) by omega,this,cG]
  rfl
def okA (a:aC):Prop:=okI a.mode∧okI a.aT
theorem zbn1 {a:aC} (h:zaA9 a=true):okA a:=by
 unfold zaA9 zs7 zz5 at h
 unfold okA okI
 simp at h
 omega
theorem zbn2 {s:ByteArray} (h:zY9 s=true):s.size≤12:=by
 unfold zY9 at h
 simp at h
 omega
theorem zby3:∀ {l:List aN} {k:aN},okL l=true→k ∈ l→okE k=true
 | x :: l,k,h,hk=>by
  simp only [okL,bX] at h
  rcases cJ.1 hk with rfl|hk
  ·exact h.1
  ·exact zby3 h.2 hk
theorem zcU8 {e k:aN} (hk:k ∈ e.bE):zt3 k+1≤zt3 e:=by
 have:∀ (ks:List aN),k ∈ ks→zt3 k≤zv8 ks:=by
  intro ks
  induction ks with
  | nil=>intro h; cases h
  | cons x ks ih =>
   intro h
   rw [zaI1]
   rcases cJ.1 h with rfl|h
   ·omega
   ·have:=ih h; omega
 have:=this e.bE hk
 rw [zaX3 e]; omega
theorem zcg9:∀ (n:Nat) (dp:Int) (e:aN),okE e=true→zp9 e≤24→1≤dp→dp+zt3 e≤5→7≤dp+n→∀ r,Src (encE e++r)→zl6 n dp (D (encE e++r))=some (e,D r)
 | 0,dp,e,_,_,h1,h2,h3,_,_=>by have:=zaj1 e; omega
 | n+1,dp,e,hok,hn,h1,h2,h3,r,hr=>by
  show zt2 (zl6 n) dp (D (encE e++r))=_
  have hd:=zaj1 e
  unfold zt2
  rw [bW (by simp; omega)]
  unfold zs2
  rw [zbm8,cG] at hr ⊢
  by_cases c:e.bE.length=0
  ·obtain ⟨k0,k1,k2⟩:=(zbj7 c).1 hok
   have hk:okI e.k:=by rw [k0]; unfold okI; omega
   rw [zS6 hk hr,Option.bind_some]
   have hr1:=hr.right
   rw [bY k0,cG] at hr1 ⊢
   obtain ⟨a1,a2⟩:=zbn1 k2
   have hs:=zbn2 k1
   simp only [cF,cL,bV,cD,k0,cE]
   rw [zcg8 (by omega) hr1,Option.bind_some,zaR8 a1 a2 hr1.right,Option.bind_some]
   have hkids:e.bE=[]:=cQ c
   obtain ⟨ek,ea,eks⟩:=e
   simp only at k0 hkids
   subst k0; subst hkids
   rfl
  ·obtain ⟨⟨k0,k1,k2⟩,k3⟩:=(zbj8 c).1 hok
   have hlen:=zH2 e.bE
   have hne:=zQ2 e
   have hk:okI e.k:=by unfold okI; omega
   rw [zS6 hk hr,Option.bind_some]
   have hr1:=hr.right
   have kn:¬ e.k=0:=by omega
   rw [bW kn,cG] at hr1 ⊢
   simp only [cF,cL,bV,cD,kn,cK]
   rw [zaE0 (by omega) (by omega) (by decide) hr1,Option.bind_some]
   have hw:IntKind.i64.wrap (dp+1)=dp+1:=zd2 (by omega) (by omega)
   have key:=zaE1 (body:=zl3 (zl6 n) dp) (enc:=encE) (ok:=fun k=>okE k=true∧zp9 k≤24∧dp+1+zt3 k≤5)
    (fun pre=>(⟨e.k,⟨aN.zero.bF.name,⟨aN.zero.bF.aK.mode,aN.zero.bF.aK.aT⟩⟩,pre⟩:aN)) (fun m x rest pre hx hsrc hm hm2 hp=>by
     unfold zl3
     rw [bY (by simp; omega)]
     simp only [hw]
     rw [zcg9 n (dp+1) x hx.1 hx.2.1 (by omega) hx.2.2 (by omega) rest hsrc,Option.bind_some,gdp (by omega),zd2 (by omega) (by omega)])
    (fun d q=>by unfold zl3; simp) e.bE [] r (fun k hk=>⟨zby3 k3 hk,by have:=zaL5 hk; omega,by have:=zcU8 hk; omega⟩) hr1.right (by simp; omega)
   show (zc0 _ ((e.bE.length:Int),D (e.bE.flatMap encE++r),(⟨e.k,⟨aN.zero.bF.name,⟨aN.zero.bF.aK.mode,aN.zero.bF.aK.aT⟩⟩,[]⟩:aN))).bind _=_
   rw [key,Option.bind_some]
   unfold zx9
   obtain ⟨ek,ea,eks⟩:=e
   simp only at k2
   subst k2
   rfl
theorem zcG4 {e:aN} (hok:okE e=true) (hf:fitE e=true) {r:List Int} (hr:Src (encE e++r)):zm6 1 (D (encE e++r))=some (e,D r):=by
 unfold fitE at hf
 simp only [bX,cB] at hf
 unfold zm6
 exact zcg9 _ 1 e hok hf.2 (by decide) (by omega) (by decide) r hr
structure OkQ (q:aB):Prop where
 name:q.aA.name.size≤1024
 kind:okI q.aA.kind
 aT:okI q.aA.aT
 home:okI q.aA.home
 gen:okI q.gen
 lh:q.aS.length≤8
 lc:q.aI.length≤8
 lw:q.aV.length≤8
 h:∀ x ∈ q.aS,zb2 x.aP=true∧okA x.aK
 c:∀ x ∈ q.aI,zb2 x.aP=true∧okA x.aK∧x.bH=0∧x.bR=0
 w:∀ x ∈ q.aV,zb2 x.aP=true∧okA x.aK∧okI x.bH∧okI x.bR
theorem zcG5 {q:aB} (h:OkQ q) {r:List Int} (hr:Src (encQ q++r)):ze2 (D (encQ q++r))=some (q,D r):=by
 have lh:=h.lh; have lc:=h.lc; have lw:=h.lw
 unfold ze2
 unfold encQ at hr ⊢
 simp only [cG] at hr ⊢
 rw [zcg8 h.name hr,Option.bind_some]
 replace hr:=hr.right
 rw [zS6 h.kind hr,Option.bind_some]
 replace hr:=hr.right
 rw [zS6 h.aT hr,Option.bind_some]
 replace hr:=hr.right
 rw [zS6 h.home hr,Option.bind_some]
 replace hr:=hr.right
 rw [zS6 h.gen hr,Option.bind_some]
 replace hr:=hr.right
 rw [zaE0 (by omega) (by omega) (by decide) hr,Option.bind_some]
 replace hr:=hr.right
 have key3:=zaE1 (body:=zk6) (enc:=encH) (ok:=fun x=>zb2 x.aP=true∧okA x.aK)
  (fun pre=>(⟨⟨q.aA.name,q.aA.kind,q.aA.aT,q.aA.home⟩,pre,[],[],q.gen⟩:aB)) (fun m x rest pre hx hsrc hm hm2 hp=>by
   unfold zk6
   unfold encH at hsrc ⊢
   rw [cG] at hsrc ⊢
   rw [bY (by simp; omega),zbn0 hx.1 hsrc,Option.bind_some,zaR8 hx.2.1 hx.2.2 hsrc.right,Option.bind_some,gdp (by first|omega|(simp only; omega)),zd2 (by omega) (by omega)])
  (fun d q=>by unfold zk6; simp) q.aS [] _ h.h hr (by simp; omega)
 rw [key3,Option.bind_some]
 replace hr:=hr.right
 unfold zw9
 rw [zaE0 (by omega) (by omega) (by decide) hr,Option.bind_some]
 replace hr:=hr.right
 have key2:=zaE1 (body:=zk5) (enc:=encC) (ok:=fun x=>zb2 x.aP=true∧okA x.aK∧x.bH=0∧x.bR=0)
  (fun pre=>(⟨⟨q.aA.name,q.aA.kind,q.aA.aT,q.aA.home⟩,[]++q.aS,pre,[],q.gen⟩:aB)) (fun m x rest pre hx hsrc hm hm2 hp=>by
   unfold zk5
   unfold encC at hsrc ⊢
   rw [cG] at hsrc ⊢
   rw [bY (by simp; omega),zbn0 hx.1 hsrc,Option.bind_some,zaR8 hx.2.1.1 hx.2.1.2 hsrc.right,Option.bind_some,gdp (by first|omega|(simp only; omega)),zd2 (by omega) (by omega)]
   obtain ⟨xp,xa,xr,xs⟩:=x
   obtain ⟨_,_,x1,x2⟩:=hx
   simp only at x1 x2
   subst x1; subst x2
   rfl)
  (fun d q=>by unfold zk5; simp) q.aI [] _ h.c hr (by simp; omega)
 rw [key2,Option.bind_some]
 replace hr:=hr.right
 unfold zw8
 rw [zaE0 (by omega) (by omega) (by decide) hr,Option.bind_some]
 replace hr:=hr.right
 have key1:=zaE1 (body:=zk4) (enc:=encW) (ok:=fun x=>zb2 x.aP=true∧okA x.aK∧okI x.bH∧okI x.bR)
  (fun pre=>(⟨⟨q.aA.name,q.aA.kind,q.aA.aT,q.aA.home⟩,[]++q.aS,[]++q.aI,pre,q.gen⟩:aB)) (fun m x rest pre hx hsrc hm hm2 hp=>by
   unfold zk4
   unfold encW at hsrc ⊢
   simp only [cG] at hsrc ⊢
   rw [bY (by simp; omega),zbn0 hx.1 hsrc,Option.bind_some,zaR8 hx.2.1.1 hx.2.1.2 hsrc.right,Option.bind_some,zS6 hx.2.2.1 hsrc.right.right,Option.bind_some,zS6 hx.2.2.2 hsrc.right.right.right,Option.bind_some,gdp (by first|omega|(simp only; omega)),zd2 (by omega) (by omega)])
  (fun d q=>by unfold zk4; simp) q.aV [] _ h.w hr (by simp; omega)
 rw [key1,Option.bind_some]
 rfl
structure OkS (s:aL):Prop where
 lq:s.aF.length≤8
 ln:s.bB.length≤8
 q:∀ q ∈ s.aF,OkQ q
 n:∀ n ∈ s.bB,zb2 n.aP=true∧okI n.gen∧okE n.bS=true∧fitE n.bS=true
theorem zcx6 {s:aL} (h:OkS s) (hl:(encS s).length≤4294967296):zq7 (encS s)=some (if zZ3 s=true then (s,0) else (aL.zero,2)):=by
 have lq:=h.lq; have ln:=h.ln
 have hr:Src (encS s++[]):=⟨(zbX2 s).app zD7.nil,by rw [dX]; omega⟩
 have he:encS s=encS s++[]:=(dX _).symm
 unfold zq7
 rw [he]
 unfold encS at hr ⊢
 simp only [cG] at hr ⊢
 have c0:=zaE0 (lim:=8) (by omega) (by omega) (by decide) hr
 have z:(⟨{ bT.zero with rest:=encI (s.aF.length:Int)++(s.aF.flatMap encQ++(encI (s.bB.length:Int)++(s.bB.flatMap encN++[]))) }⟩:aU)=D (encI (s.aF.length:Int)++(s.aF.flatMap encQ++(encI (s.bB.length:Int)++(s.bB.flatMap encN++[])))):=rfl
 rw [z,c0,Option.bind_some]
 replace hr:=hr.right
 have key2:=zaE1 (body:=zs5) (enc:=encQ) (ok:=OkQ) (fun pre=>(⟨pre,[]⟩:aL)) (fun m x rest pre hx hsrc hm hm2 hp=>by
   unfold zs5
   rw [bY (by simp; omega),zcG5 hx hsrc,Option.bind_some,gdp (by first|omega|(simp only; omega)),zd2 (by omega) (by omega)])
  (fun d q=>by unfold zs5; simp) s.aF [] _ h.q hr (by simp; omega)
 rw [key2,Option.bind_some]
 replace hr:=hr.right
 unfold zH8
 rw [zaE0 (by omega) (by omega) (by decide) hr,Option.bind_some]
 replace hr:=hr.right
 have key1:=zaE1 (body:=zs4) (enc:=encN) (ok:=fun n=>zb2 n.aP=true∧okI n.gen∧okE n.bS=true∧fitE n.bS=true) (fun pre=>(⟨[]++s.aF,pre⟩:aL)) (fun m x rest pre hx hsrc hm hm2 hp=>by
   unfold zs4
   unfold encN at hsrc ⊢
   simp only [cG] at hsrc ⊢
   rw [bY (by simp; omega),zbn0 hx.1 hsrc,Option.bind_some,zS6 hx.2.1 hsrc.right,Option.bind_some,zcG4 hx.2.2.1 hx.2.2.2 hsrc.right.right,Option.bind_some,gdp (by first|omega|(simp only; omega)),zd2 (by omega) (by omega)])
  (fun d q=>by unfold zs4; simp) s.bB [] _ h.n hr (by simp; omega)
 rw [key1,Option.bind_some]
 unfold zO6
 simp only [cF,cL,bV,cD,List.nil_append,List.length_nil]
 rw [bW (by simp),zQ3,Option.bind_some]
 cases zZ3 s <;> rfl
def Bk {α:Type} (F:aU→Option (α×aU)) (enc:α→List Int):Prop :=
 ∀ d v d',F d=some (v,d')→d'.bC.err=0→d.bC.err=0∧(Src d.bC.rest→d.bC.rest=enc v++d'.bC.rest)
theorem Bk.varint {lim over:Int} (h0:0≤lim) (h1:lim≤1073741824) (ho:over≠0) {d:aU} {v:Int} {d':aU} (h:zb7 lim over d=some (v,d')) (he:d'.bC.err=0) :
  d.bC.err=0∧(Src d.bC.rest→d.bC.rest=encI v++d'.bC.rest∧0≤v∧v≤lim):=by
 unfold zb7 at h
 by_cases c:d.bC.err=0
 ·refine ⟨c,fun hs=>?_⟩
  rw [bW (by simp [c])] at h
  obtain ⟨⟨u,n,e⟩,hu,h⟩:=zc2 h
  rw [zX4 lim (by omega) (by omega)] at h
  by_cases c2:(decide (e=0)&&decide (lim < u))=true
  ·rw [bY c2] at h
   unfold zr4 at h
   rw [bY (by simpa using ho)] at h
   cases h
   exact absurd he ho
  ·rw [bW c2] at h
   unfold zr4 at h
   by_cases c3:e=0
   ·subst c3
    rw [zbm6 hs.bytes] at hu
    have hul:u≤lim:=by simpa using c2
    obtain ⟨b0,b1,b2,b3⟩:=zbE5 hs.bytes hu (by omega)
    rw [bW (by simp),gdp (by simp only; omega)] at h
    cases h
    simp only
    rw [zd2 (by omega) (by omega)]
    exact ⟨b3,b0,hul⟩
   ·rw [bY (by simpa using c3)] at h
    cases h
    exact absurd he c3
 ·rw [bY (by simpa using c)] at h
  cases h
  exact absurd he c
theorem Bk.number:Bk za9 encI:=fun d v d' h he=>by
 unfold za9 at h
 obtain ⟨x,hx,h⟩:=zc2 h
 cases h
 have:=Bk.varint (by decide) (by decide) (by decide) hx he
 exact ⟨this.1,fun hs=>(this.2 hs).1⟩
theorem Bk.count {lim:Int} (h0:0≤lim) (h1:lim≤100) {d:aU} {v:Int} {d':aU} (h:zb9 lim d=some (v,d')) (he:d'.bC.err=0) :
  d.bC.err=0∧(Src d.bC.rest→d.bC.rest=encI v++d'.bC.rest∧0≤v∧v≤100):=by
 unfold zb9 at h
 obtain ⟨x,hx,h⟩:=zc2 h
 cases h
 have:=Bk.varint h0 (by omega) (by decide) hx he
 exact ⟨this.1,fun hs=>⟨(this.2 hs).1,(this.2 hs).2.1,by have:=(this.2 hs).2.2; omega⟩⟩
theorem zcx7 {l:List Int} (h:zD7 l):(zam3 l).size=l.length∧(zam3 l).toList.map (fun b=>(b.toNat:Int))=l:=by
 have e:(zam3 l).toList=l.map fun n=>UInt8.ofNat n.toNat:=by rw [ByteArray.toList_eq]; simp [zam3]
 have e2:(zam3 l).toList.map (fun b=>(b.toNat:Int))=l:=by
  rw [e,jP]
  conv=>rhs; rw [← List.map_id l]
  refine iV fun n hn=>?_
  have:=h n hn
  simp only [Function.comp,id]
  rw [UInt8.toNat_ofNat']
  omega
 refine ⟨?_,e2⟩
 rw [← zaP0,e,dW]
theorem Bk.text:Bk zc7 encT:=fun d v d' h he=>by
 unfold zc7 at h
 by_cases c:d.bC.err=0
 ·refine ⟨c,fun hs=>?_⟩
  rw [bW (by simp [c])] at h
  obtain ⟨⟨u,n,e⟩,hu,h⟩:=zc2 h
  by_cases c3:e=0
  ·subst c3
   rw [bW (by simp)] at h
   obtain ⟨_,h⟩:=zg0 h
   cases h
   unfold zn4 at hu
   obtain ⟨⟨x,k,f⟩,hx,hu⟩:=zc2 hu
   by_cases c4:f=0
   ·subst c4
    rw [bW (by simp)] at hu
    by_cases c5:1024 < x
    ·rw [bY (by simpa using c5)] at hu; cases hu
    ·rw [bW (by simpa using c5)] at hu
     rw [zbm6 hs.bytes] at hx
     obtain ⟨b0,b1,b2,b3⟩:=zbE5 hs.bytes hx (by omega)
     have hl:=hs.len
     simp only [zd2 (x:=x) (by omega) (by omega)] at hu
     rw [zd2 (x:=(d.bC.rest.length:Int) - k) (by omega) (by omega)] at hu
     by_cases c6:(d.bC.rest.length:Int) - k < x
     ·rw [bY (by simpa using c6)] at hu; cases hu
     ·rw [bW (by simpa using c6)] at hu
      simp only [zd2 (x:=k+x) (by omega) (by omega)] at hu
      obtain ⟨_,hu⟩:=zg0 hu
      cases hu
      have hB:zD7 ((d.bC.rest.take (k+x).toNat).drop k.toNat):=fun y hy=>hs.bytes y (gC (gD hy))
      obtain ⟨z1,z2⟩:=zcx7 hB
      have zl:((d.bC.rest.take (k+x).toNat).drop k.toNat).length=x.toNat:=by simp; omega
      unfold encT
      rw [z1,z2,zl]
      simp only
      have s1:d.bC.rest.drop k.toNat=(d.bC.rest.take (k+x).toNat).drop k.toNat++d.bC.rest.drop (k+x).toNat:=by
       conv=>lhs; rw [← eM (k+x).toNat d.bC.rest]
       rw [eY (by simp; omega)]
      rw [cG,← s1]
      exact b3
   ·rw [bY (by simpa using c4)] at hu
    simp only [cV,iC] at hu
    exact absurd hu.2.2 c4
  ·rw [bY (by simpa using c3)] at h
   cases h
   exact absurd he c3
 ·rw [bY (by simpa using c)] at h
  cases h
  exact absurd he c
theorem zbE6 {a:List Int} (ha:Src a) {at_ i:Int} {z:Arr Int 3} (h0:0≤at_) (h1:at_≤a.length) (i0:0≤i) (i3:i < 3) {y} (h:zq0 a (at_,i,z)=some y) :
  (∃ e,y=.inr (.inr (aJ.zero,0,e))∧e≠0)∨∃ u at2,y=.inl (at2,i+1,Arr.put z i.toNat u)∧at_≤at2∧at2≤a.length∧(u < 1073741824→a.drop at_.toNat=encI u++a.drop at2.toNat):=by
 unfold zq0 at h
 have hl:=ha.len
 simp only at h
 rw [bY (by simpa using i3),gdp (by omega)] at h
 have hd:Src (a.drop at_.toNat):=⟨ha.bytes.drop _,by simp; omega⟩
 obtain ⟨⟨u,n,e⟩,hu,h⟩:=zc2 h
 by_cases c:e=0
 ·subst c
  rw [bW (by simp),gdp (by omega),zd2 (x:=i+1) (by omega) (by omega)] at h
  obtain ⟨r,hr,ro⟩:=zbm7 hd.bytes
  rw [hu] at hr
  cases hr
  have o:=ro.ok rfl
  have v0:=ro.v0
  rw [dS] at o
  simp only at o v0
  rw [zd2 (x:=at_+n) (by omega) (by omega)] at h
  have hw:IntKind.i64.wrap (if 1073741824 < u then 1073741824 else u)=if 1073741824 < u then 1073741824 else u:=by split <;> exact zd2 (by omega) (by omega)
  rw [hw] at h
  refine .inr ⟨_,_,(dN h).symm,by omega,by omega,fun hlt=>?_⟩
  have hle:¬ 1073741824 < u:=by intro hc; rw [bY hc] at hlt; omega
  rw [bW hle]
  rw [zbm6 hd.bytes] at hu
  obtain ⟨b0,b1,b2,b3⟩:=zbE5 hd.bytes hu (by omega)
  rw [eQ] at b3
  rw [show (at_+n).toNat=at_.toNat+n.toNat by omega]
  exact b3
 ·rw [bY (by simpa using c)] at h
  exact .inl ⟨e,(dN h).symm,c⟩
theorem zcG6 {a:List Int} (ha:Src a) {p:aJ} {n:Int} (h:zo9 a=some (p,n,0)):a=encP p++a.drop n.toNat:=by
 unfold zo9 at h
 obtain ⟨x,hx,h⟩:=zc2 h
 rw [ze0] at hx
 have hne:∀ e:Int,e≠0→∀ z:aJ×Int×Int,z=(aJ.zero,0,e)→some z=some (p,n,0)→False:=fun e he z hz hh=>by
  rw [hz] at hh
  simp only [cV,iC] at hh
  exact he hh.2.2
 cases h1:zq0 a (0,0,Arr.rep 3 0) with
 | none=>rw [h1] at hx; cases hx
 | some y1 =>
 rw [h1] at hx
 rcases zbE6 ha (by decide) (by omega) (by decide) (by decide) h1 with ⟨e,rfl,he⟩|⟨u1,a1,rfl,l1,m1,k1⟩
 ·cases hx; exact (hne e he _ rfl h).elim
 simp only at hx
 rw [ze0] at hx
 cases h2:zq0 a (a1,0+1,Arr.put (Arr.rep 3 0) (0:Int).toNat u1) with
 | none=>rw [h2] at hx; cases hx
 | some y2 =>
 rw [h2] at hx
 rcases zbE6 ha (by omega) (by omega) (by decide) (by decide) h2 with ⟨e,rfl,he⟩|⟨u2,a2,rfl,l2,m2,k2⟩
 ·cases hx; exact (hne e he _ rfl h).elim
 simp only at hx
 rw [ze0] at hx
 cases h3:zq0 a (a2,0+1+1,Arr.put (Arr.put (Arr.rep 3 0) (0:Int).toNat u1) (0+1:Int).toNat u2) with
 | none=>rw [h3] at hx; cases hx
 | some y3 =>
 rw [h3] at hx
 rcases zbE6 ha (by omega) (by omega) (by decide) (by decide) h3 with ⟨e,rfl,he⟩|⟨u3,a3,rfl,l3,m3,k3⟩
 ·cases hx; exact (hne e he _ rfl h).elim
 simp only at hx
 rw [ze0] at hx
 have h4:zq0 a (a3,0+1+1+1,Arr.put (Arr.put (Arr.put (Arr.rep 3 0) (0:Int).toNat u1) (0+1:Int).toNat u2) (0+1+1:Int).toNat u3)=some (.inr (.inl (a3,Arr.put (Arr.put (Arr.put (Arr.rep 3 0) (0:Int).toNat u1) (0+1:Int).toNat u2) (0+1+1:Int).toNat u3))):=by
  unfold zq0
  rw [bW (by simp)]
 rw [h4] at hx
 cases hx
 simp only at h
 unfold zaj5 at h
 have g:(⟨Arr.get (Arr.put (Arr.put (Arr.put (Arr.rep 3 0) (0:Int).toNat u1) (0+1:Int).toNat u2) (0+1+1:Int).toNat u3) 0 0,Arr.get (Arr.put (Arr.put (Arr.put (Arr.rep 3 0) (0:Int).toNat u1) (0+1:Int).toNat u2) (0+1+1:Int).toNat u3) 1 0,Arr.get (Arr.put (Arr.put (Arr.put (Arr.rep 3 0) (0:Int).toNat u1) (0+1:Int).toNat u2) (0+1+1:Int).toNat u3) 2 0⟩:aJ)=⟨u1,u2,u3⟩:=rfl
 simp only [g] at h
 cases hv:zb2 ⟨u1,u2,u3⟩ with
 | false=>rw [hv] at h; cases h
 | true =>
  rw [hv] at h
  cases h
  unfold zb2 zF3 at hv
  simp only [bX,cB] at hv
  have e1:=k1 (by omega)
  have e2:=k2 (by omega)
  have e3:=k3 (by omega)
  simp only [Int.toNat_zero,fP] at e1
  unfold encP
  rw [cG,cG,← e3,← e2]
  exact e1
theorem Bk.aP:Bk zd1 encP:=fun d v d' h he=>by
 unfold zd1 at h
 by_cases c:d.bC.err=0
 ·refine ⟨c,fun hs=>?_⟩
  rw [bW (by simp [c])] at h
  obtain ⟨⟨u,n,e⟩,hu,h⟩:=zc2 h
  by_cases c3:e=0
  ·subst c3
   rw [bW (by simp)] at h
   obtain ⟨_,h⟩:=zg0 h
   cases h
   exact zcG6 hs hu
  ·rw [bY (by simpa using c3)] at h
   cases h
   exact absurd he c3
 ·rw [bY (by simpa using c)] at h
  cases h
  exact absurd he c
theorem Bk.then {α:Type} {F:aU→Option (α×aU)} {enc:α→List Int} (hF:Bk F enc) {d:aU} {x:α×aU} (hx:F d=some x) {E:List Int} {d':aU}
  (h:x.2.bC.err=0∧(Src x.2.bC.rest→x.2.bC.rest=E++d'.bC.rest)):d.bC.err=0∧(Src d.bC.rest→d.bC.rest=(enc x.1++E)++d'.bC.rest):=by
 obtain ⟨v,dx⟩:=x
 obtain ⟨h1,h2⟩:=hF d v dx hx h.1
 refine ⟨h1,fun hs=>?_⟩
 have e:=h2 hs
 have hs2:Src dx.bC.rest:=Src.right (a:=enc v) (by rw [← e]; exact hs)
 rw [cG,← h.2 hs2]
 exact e
theorem Bk.aK:Bk zc3 encA:=fun d v d' h he=>by
 unfold zc3 at h
 obtain ⟨x,hx,h⟩:=zc2 h
 obtain ⟨y,hy,h⟩:=zc2 h
 cases h
 exact Bk.number.then hx (Bk.number _ _ _ hy he)
theorem zch0 {α Q:Type} {body:Int×aU×Q→Option ((Int×aU×Q)⊕(aU×Q))} {enc:α→List Int} (R:List α→Q)
  (hs:∀ (n:Int) d pre y,0 < n→d.bC.err=0→body (n,d,R pre)=some y→∃ x d',y=.inl (IntKind.i64.wrap (n - 1),d',R (pre++[x]))∧(d'.bC.err=0→Src d.bC.rest→d.bC.rest=enc x++d'.bC.rest))
  (he:∀ (n:Int) d q,¬ (0 < n∧d.bC.err=0)→body (n,d,q)=some (.inr (d,q))) :
  ∀ (k:Nat) (d:aU) (pre:List α) (d':aU) (q':Q),k≤100→zc0 body ((k:Int),d,R pre)=some (d',q')→d'.bC.err=0 →
   d.bC.err=0∧∃ l,q'=R (pre++l)∧l.length=k∧(Src d.bC.rest→d.bC.rest=l.flatMap enc++d'.bC.rest)
 | 0,d,pre,d',q',_,h,hz=>by
  rw [ze0,he _ _ _ (by omega)] at h
  cases h
  exact ⟨hz,[],by rw [dX],rfl,fun _=>rfl⟩
 | k+1,d,pre,d',q',hk,h,hz=>by
  by_cases c:d.bC.err=0
  ·rw [ze0] at h
   cases hb:body (((k+1:Nat):Int),d,R pre) with
   | none=>rw [hb] at h; cases h
   | some y =>
    rw [hb] at h
    obtain ⟨x,d2,rfl,h2⟩:=hs _ _ _ _ (by omega) c hb
    simp only at h
    rw [zd2 (by omega) (by omega),show (((k+1:Nat):Int) - 1)=(k:Int) by omega] at h
    obtain ⟨i1,l,i2,i3,i4⟩:=zch0 R hs he k d2 (pre++[x]) d' q' (by omega) h hz
    refine ⟨c,x :: l,by rw [i2,cG]; rfl,by simp [i3],fun hsrc=>?_⟩
    have e:=h2 i1 hsrc
    have:=i4 (Src.right (a:=enc x) (by rw [← e]; exact hsrc))
    rw [fD,cG,← this]
    exact e
  ·rw [ze0,he _ _ _ (fun hh=>c hh.2)] at h
   cases h
   exact absurd hz c
theorem zbk2 {Q:Type} {body:Int×aU×Q→Option ((Int×aU×Q)⊕(aU×Q))} (he:∀ (n:Int) d q,¬ (0 < n∧d.bC.err=0)→body (n,d,q)=some (.inr (d,q))) {n:Int} {d:aU} {q:Q} {z:aU×Q}
  (hz:zc0 body (n,d,q)=some z) (h:z.1.bC.err=0):d.bC.err=0:=by
 by_cases c:d.bC.err=0
 ·exact c
 ·rw [ze0,he _ _ _ (fun hh=>c hh.2)] at hz
  cases hz
  exact h
theorem zah6 {a b:List Int} {e:List Int} (h:a=e++b) (hs:Src a):Src b:=Src.right (a:=e) (by rw [← h]; exact hs)
theorem zbn3 {α Q:Type} {body:Int×aU×Q→Option ((Int×aU×Q)⊕(aU×Q))} {enc:α→List Int} (R:List α→Q)
  (hs:∀ (n:Int) d pre y,0 < n→d.bC.err=0→body (n,d,R pre)=some y→∃ x d',y=.inl (IntKind.i64.wrap (n - 1),d',R (pre++[x]))∧(d'.bC.err=0→Src d.bC.rest→d.bC.rest=enc x++d'.bC.rest))
  (he:∀ (n:Int) d q,¬ (0 < n∧d.bC.err=0)→body (n,d,q)=some (.inr (d,q))) {lim:Int} (h0:0≤lim) (h1:lim≤100) {d:aU} {v:Int×aU} (hv:zb9 lim d=some v)
  {q0:Q} (hq:q0=R []) {z:aU×Q} (hz:zc0 body (v.1,v.2,q0)=some z) (h:z.1.bC.err=0) (hsrc:Src d.bC.rest) :
  ∃ l,z.2=R l∧d.bC.rest=encI (l.length:Int)++(l.flatMap enc++z.1.bC.rest):=by
 obtain ⟨n,d1⟩:=v
 obtain ⟨d2,q⟩:=z
 simp only at hz h ⊢
 have herr:d1.bC.err=0:=zbk2 he hz h
 obtain ⟨c3,c4,c5⟩:=(Bk.count h0 h1 hv herr).2 hsrc
 have hn:n=((n.toNat:Nat):Int):=by omega
 rw [hn,hq] at hz
 obtain ⟨_,l,k1,k2,k3⟩:=zch0 R hs he n.toNat d1 [] d2 q (by omega) hz h
 refine ⟨l,k1,?_⟩
 rw [k2,← hn,← k3 (zah6 c3 hsrc)]
 exact c3
theorem zbX3 {q:aB} (hs:SoundP q) {w:aX} (hw:w ∈ ordQ q):zb2 w.aP=true∧zb4 q.aA w.aK=true∧(zx6 w.aP q.aS).length+1≤8:=by
 have hvh:=(zZ0 _ _).1 hs.hv
 rcases cU.1 hw with h|h
 ·obtain ⟨h1,h2,_⟩:=hs.cg w h
  refine ⟨(hvh.2.2.1.each _ (zaO1 h1)).1,h2,?_⟩
  have:=zbD2 (zbl8 hs.hv) h1
  omega
 ·have h1:=hs.wg w h
  have h2:=((zaN9 _).1 hs.wv).2.1 w h
  refine ⟨?_,h1.1,?_⟩
  ·rw [← zaK7] at h2
   unfold zB7 at h2
   rw [zaA6] at h2
   simp only [bX] at h2
   exact h2.1.1.1.1.1
  ·have:=hs.wl
   have h3:=zaN6 w.aP q.aS
   have:0 < q.aV.length:=List.length_pos_of_mem h
   omega
theorem zcG7 {l:List aX} (h:zZ9 l=true) {w:aX} (hw:w ∈ l):zm8 w=true:=by
 unfold zZ9 at h
 simp only [bX,cB,eO,eR] at h
 obtain ⟨i,hi,e⟩:=List.getElem_of_mem hw
 have:=(h.2 i hi).1
 rw [bZ,cC hi] at this
 simp only [Option.getD_some,e] at this
 exact this
theorem zcn5 {r:aH} {a:aC} (h:zb4 r a=true) (hs:r.aT≤1073741824):okA a:=by
 rw [zM5] at h
 unfold okA okI
 omega
theorem zbX4 {q:aB} (h:zl4 q=true):OkQ q∧q.aA.name.size≤12:=by
 have hs:=((zz4 q).1 h).1
 have hl:=zai9 h
 have hr:=hs.res
 unfold resV at hr
 simp only [bX,cB] at hr
 have hn:=zbn2 hr.1
 have hsh:=(zM4 _).1 hr.2.1
 have hu:q.aA.aT≤1073741824:=by omega
 refine ⟨⟨by omega,by unfold okI; omega,by unfold okI; omega,by unfold okI; omega,hs.gen,hl.1,hl.2.1,hl.2.2.1,fun x hx=>?_,fun x hx=>?_,fun x hx=>?_⟩,hn⟩
 ·have:=((zZ0 _ _).1 hs.hv).2.2.1.each x hx
  exact ⟨this.1,zcn5 this.2 hu⟩
 ·have:=zbX3 hs (w:=x) (by unfold ordQ; exact cU.2 (.inl hx))
  have h2:=hs.cg x hx
  exact ⟨this.1,zcn5 this.2.1 hu,h2.2.2.2.2.1,h2.2.2.2.2.2⟩
 ·have:=zbX3 hs (w:=x) (by unfold ordQ; exact cU.2 (.inr hx))
  have h2:=zcG7 hs.wv hx
  unfold zm8 at h2
  simp only [bX,cB] at h2
  exact ⟨this.1,zcn5 this.2.1 hu,by unfold okI; omega,by unfold okI; omega⟩
theorem zcG8 {l:List bN} (h:zaT4 l=true) {n:bN} (hn:n ∈ l):zb2 n.aP=true∧vE n.bS=true∧okI n.gen:=by
 unfold zaT4 at h
 rw [eO] at h
 obtain ⟨i,hi,e⟩:=List.getElem_of_mem hn
 have:=h i (eR.2 hi)
 rw [bZ,cC hi] at this
 simp only [Option.getD_some,e] at this
 unfold zby1 at this
 simp only [bX,cB] at this
 exact ⟨this.1.1.1.1,this.1.1.1.2,this.1.1.2,this.1.2⟩
theorem zcM6 {e:aN} (h:vE e=true):okE e=true∧fitE e=true:=by
 unfold vE at h
 rw [bX] at h
 refine ⟨?_,h.1⟩
 have h2:=h.2
 unfold zal9 at h2
 split at h2
 ·assumption
 ·cases h2
theorem zbk3 {s:aL} (h:zZ3 s=true):OkS s∧∀ q ∈ s.aF,q.aA.name.size≤12:=by
 unfold zZ3 at h
 simp only [bX,cB] at h
 obtain ⟨h1,h2,_⟩:=(zaD9 _).1 h.1.1.1
 refine ⟨⟨h1,h.1.1.2,fun q hq=>(zbX4 (h2 q hq)).1,fun n hn=>?_⟩,fun q hq=>(zbX4 (h2 q hq)).2⟩
 obtain ⟨a,b,c⟩:=zcG8 h.1.2 hn
 exact ⟨a,c,(zcM6 b).1,(zcM6 b).2⟩
theorem zT7 {x:Int} (h:okI x):(encI x).length≤5:=(zaX6 4 x.toNat (by have:=h.1; have:=h.2; omega)).2
theorem zcM7 {s:ByteArray} (h:s.size≤1024):(encT s).length≤1029:=by
 have:=(zaX6 4 s.size (by omega)).2
 unfold encT
 rw [cA,dW,zaP0]; omega
theorem zbM6 {p:aJ} (h:zb2 p=true):(encP p).length≤15:=by
 obtain ⟨a,b,c⟩:=zbb2 h
 have:=zT7 a; have:=zT7 b; have:=zT7 c
 unfold encP
 simp only [cA]; omega
theorem zbM7 {a:aC} (h:okA a):(encA a).length≤10:=by
 have:=zT7 h.1; have:=zT7 h.2
 unfold encA
 simp only [cA]; omega
theorem zbn4 {α:Type} {f:α→List Int} {c:Nat}:∀ {l:List α},(∀ x ∈ l,(f x).length≤c)→(l.flatMap f).length≤c * l.length
 | [],_=>by simp
 | x :: l,h=>by
  have h1:=h x (.head _)
  have h2:=zbn4 (l:=l) fun y hy=>h y (.tail _ hy)
  rw [fD,cA,List.length_cons,Nat.mul_add]; omega
theorem zcM8:∀ (n:Nat) (e:aN),_root_.SizeOf.sizeOf e < n→okE e=true→zp9 e≤24→((encE e).length:Int)≤1100 * zp9 e
 | 0,_,h,_,_=>by omega
 | n+1,e,h,hok,hn=>by
  have hne:=zQ2 e
  have hl:=zH2 e.bE
  rw [zbm8,cA]
  by_cases c:e.bE.length=0
  ·obtain ⟨k0,k1,k2⟩:=(zbj7 c).1 hok
   have:=zT7 (x:=e.k) (by rw [k0]; unfold okI; omega)
   have:=zcM7 (s:=e.bF.name) (by have:=zbn2 k1; omega)
   have:=zbM7 (zbn1 k2)
   rw [bY k0,cA]; omega
  ·obtain ⟨⟨k0,k1,k2⟩,k3⟩:=(zbj8 c).1 hok
   have e1:=zT7 (x:=e.k) (by unfold okI; omega)
   have e2:=zT7 (x:=(e.bE.length:Int)) (by unfold okI; omega)
   rw [bW (by omega),cA]
   have key:∀ l:List aN,(∀ k ∈ l,k ∈ e.bE)→((l.flatMap encE).length:Int)≤1100 * zz9 l:=by
    intro l
    induction l with
    | nil=>intro _; simp [zba7]
    | cons k l ih =>
     intro hk
     have h1:=zcM8 n k (zao4 h (hk k (.head _))) (zby3 k3 (hk k (.head _))) (by have:=zaL5 (hk k (.head _)); omega)
     have h2:=ih fun y hy=>hk y (.tail _ hy)
     rw [fD,cA,zao3]; omega
   have:=key e.bE fun _ h=>h
   omega
theorem zdu9 {q:aB} (h:OkQ q):(encQ q).length≤2000:=by
 have lh:=h.lh; have lc:=h.lc; have lw:=h.lw
 have a1:=zcM7 h.name; have a2:=zT7 h.kind; have a3:=zT7 h.aT; have a4:=zT7 h.home; have a5:=zT7 h.gen
 have a6:=zT7 (x:=(q.aS.length:Int)) (by unfold okI; omega)
 have a7:=zT7 (x:=(q.aI.length:Int)) (by unfold okI; omega)
 have a8:=zT7 (x:=(q.aV.length:Int)) (by unfold okI; omega)
 have b1:=zbn4 (l:=q.aS) (f:=encH) (c:=25) fun x hx=>by
  have:=zbM6 (h.h x hx).1; have:=zbM7 (h.h x hx).2
  unfold encH; rw [cA]; omega
 have b2:=zbn4 (l:=q.aI) (f:=encC) (c:=25) fun x hx=>by
  have:=zbM6 (h.c x hx).1; have:=zbM7 (h.c x hx).2.1
  unfold encC; rw [cA]; omega
 have b3:=zbn4 (l:=q.aV) (f:=encW) (c:=35) fun x hx=>by
  have:=zbM6 (h.w x hx).1; have:=zbM7 (h.w x hx).2.1; have:=zT7 (h.w x hx).2.2.1; have:=zT7 (h.w x hx).2.2.2
  unfold encW; simp only [cA]; omega
 unfold encQ
 simp only [cA]; omega
theorem zdv0 {n:bN} (h:zb2 n.aP=true∧okI n.gen∧okE n.bS=true∧fitE n.bS=true):(encN n).length≤30000:=by
 have h4:=h.2.2.2
 unfold fitE at h4
 simp only [bX,cB] at h4
 have:=zbM6 h.1; have:=zT7 h.2.1; have:=zcM8 _ n.bS (eC _) h.2.2.1 h4.2
 unfold encN
 simp only [cA]; omega
theorem zbM8 {s:aL} (h:OkS s):(encS s).length≤300000:=by
 have lq:=h.lq; have ln:=h.ln
 have a1:=zT7 (x:=(s.aF.length:Int)) (by unfold okI; omega)
 have a2:=zT7 (x:=(s.bB.length:Int)) (by unfold okI; omega)
 have b1:=zbn4 (l:=s.aF) (f:=encQ) (c:=2000) fun x hx=>zdu9 (h.q x hx)
 have b2:=zbn4 (l:=s.bB) (f:=encN) (c:=30000) fun x hx=>zdv0 (h.n x hx)
 unfold encS
 simp only [cA]; omega
abbrev room (l e:List Int):Prop:=l.length+e.length≤4294960000
theorem room.left {l a b:List Int} (h:room l (a++b)):room l a:=by unfold room at *; rw [cA] at h; omega
theorem room.right {l a b:List Int} (h:room l (a++b)):room (l++a) b:=by unfold room at *; rw [cA] at h ⊢; omega
theorem zaR9 {l:List Int} {x:Int} (h:okI x) (hr:room l (encI x)):ze6 l (IntKind.u64.wrap x)=some (l++encI x)∧ze7 l (IntKind.u64.wrap x)=some (l++encI x):=by
 unfold room at hr
 obtain ⟨h0,h1⟩:=h
 rw [zX4 x h0 (by omega)]
 have:x=((x.toNat:Nat):Int):=(iB h0).symm
 unfold encI
 rw [this,Int.toNat_natCast]
 exact ⟨zcg7 (by omega) (by omega),zbE4 (by omega) (by omega)⟩
theorem zad0 {l:List Int} {x:Int} (h:okI x) (hr:room l (encI x)):zj7 l x=some (l++encI x):=by
 unfold zj7
 rw [(zaR9 h hr).2]; rfl
theorem zby4:∀ (xs:List Int) (l:List Int),(∀ x ∈ xs,okI x)→xs.length≤1000→room l (xs.flatMap encI)→zc4 l xs=some (l++xs.flatMap encI):=by
 intro xs l hx hlen hr
 unfold zc4
 have key:∀ k i (acc:List Int),i+k=xs.length→room acc ((xs.drop i).flatMap encI)→zc0 (zF6 xs) (acc,(i:Int))=some (acc++(xs.drop i).flatMap encI):=by
  intro k
  induction k with
  | zero =>
   intro i acc hi _
   have:i=xs.length:=by omega
   subst this
   rw [ze0,iR]
   unfold zF6
   rw [bW (by simp)]
   simp
  | succ k ih =>
   intro i acc hi hrm
   have hlt:i < xs.length:=by omega
   rw [zaq9 xs i 0 hlt] at hrm ⊢
   rw [fD] at hrm ⊢
   have hok:=hx _ (zn0 (z:=0) hlt)
   rw [ze0]
   unfold zF6
   simp only
   rw [bY (by simpa using hlt),gdp (by omega)]
   simp only [Int.toNat_natCast]
   rw [(zaR9 hok hrm.left).1,Option.bind_some,zd0 i (by omega)]
   simp only
   have:=ih (i+1) (acc++encI (xs.getD i 0)) (by omega) hrm.right
   unfold zF6 at this
   rw [this,cG]
 have:=key xs.length 0 l (by omega) hr
 rw [show ((l,0):List Int×Int)=(l,((0:Nat):Int)) from rfl,this]
 rfl
theorem zbX5 {l:List Int} {s:ByteArray} (h:s.size≤1024) (hr:room l (encT s)):zj9 l s=some (l++encT s)∧zj8 l s=some (l++encT s):=by
 have hr':=hr
 unfold room at hr'
 unfold zj9 zj8
 unfold encT at hr hr' ⊢
 rw [cA,dW,zaP0] at hr'
 rw [zX4 (s.size:Int) (by omega) (by omega),zcx3 (by omega) (by omega),zcx2 (by omega) (by omega),Option.bind_some,gdp (by rw [cA,zaP0]; omega),cG]
 exact ⟨rfl,rfl⟩
theorem zaI2 {l:List Int} {p:aJ} (h:zb2 p=true) (hr:room l (encP p)):zk0 l p=some (l++encP p)∧zj2 l p=some (l++encP p):=by
 obtain ⟨k1,k2,k3⟩:=zbb2 h
 unfold encP at hr ⊢
 have r1:=hr.left.left
 have r2:=hr.left.right
 have r3:=hr.right
 rw [← cG] at r3
 constructor
 ·unfold zk0
  have t1:∀ acc:List Int,room acc (encI p.site)→zz6 p (acc,0)=some (.inl (acc++encI p.site,1)):=fun acc ha=>by
   unfold zz6
   rw [bY (by simp),gdp (by simp)]
   show ((ze6 acc (IntKind.u64.wrap p.site)).bind fun v1=>some (Sum.inl (v1,IntKind.i64.wrap (0+1))))=_
   rw [(zaR9 k1 ha).1]; rfl
  have t2:∀ acc:List Int,room acc (encI p.inc)→zz6 p (acc,1)=some (.inl (acc++encI p.inc,2)):=fun acc ha=>by
   unfold zz6
   rw [bY (by simp),gdp (by simp)]
   show ((ze6 acc (IntKind.u64.wrap p.inc)).bind fun v1=>some (Sum.inl (v1,IntKind.i64.wrap (1+1))))=_
   rw [(zaR9 k2 ha).1]; rfl
  have t3:∀ acc:List Int,room acc (encI p.num)→zz6 p (acc,2)=some (.inl (acc++encI p.num,3)):=fun acc ha=>by
   unfold zz6
   rw [bY (by simp),gdp (by simp)]
   show ((ze6 acc (IntKind.u64.wrap p.num)).bind fun v1=>some (Sum.inl (v1,IntKind.i64.wrap (2+1))))=_
   rw [(zaR9 k3 ha).1]; rfl
  have t4:∀ acc:List Int,zz6 p (acc,3)=some (.inr acc):=fun acc=>by
   unfold zz6
   rw [bW (by simp)]
  have hlen:l.length≤4294967296:=by unfold room at hr; omega
  rw [gdp hlen,bW (by simp [h]),ze0,t1 l r1]
  simp only
  rw [ze0,t2 _ r2]
  simp only
  rw [ze0,t3 _ r3]
  simp only
  rw [ze0,t4]
  simp only [cG]
  rfl
 ·unfold zj2
  rw [zaA6,bW (by simp [h]),(zaR9 k1 r1).2,Option.bind_some,(zaR9 k2 r2).2,Option.bind_some,(zaR9 k3 r3).2]
  simp only [cG]
  rfl
theorem zbb3 {l:List Int} {a:aC} (h:okA a) (hr:room l (encA a)):zm9 l a=some (l++encA a):=by
 unfold zm9
 unfold encA at hr ⊢
 rw [zad0 h.1 hr.left,Option.bind_some,zad0 h.2 hr.right,cG]
 rfl
theorem zbt9 {l:List Int} {a:aC} (h:okA a) (hr:room l (encA a)):zc4 l [a.mode,a.aT]=some (l++encA a):=by
 have:[a.mode,a.aT].flatMap encI=encA a:=by simp [encA]
 rw [zby4 _ l (fun x hx=>by
  simp only [cJ,fW,jH] at hx
  rcases hx with rfl|rfl
  ·exact h.1
  ·exact h.2) (by simp) (by rw [this]; exact hr),this]
theorem zaS0 {l:List Int} {x:Int} (h:okI x) (hr:room l (encI x)):zc4 l [x]=some (l++encI x):=by
 have:[x].flatMap encI=encI x:=by simp
 rw [zby4 _ l (fun y hy=>by rw [dQ.1 hy]; exact h) (by simp) (by rw [this]; exact hr),this]
theorem zU8 {α:Type} {body:List Int×Int→Option ((List Int×Int)⊕List Int)} {enc:α→List Int} {ok:α→Prop} (l:List α) (z:α) (hlen:l.length≤1000)
  (hs:∀ (i:Nat) acc,i < l.length→ok (l.getD i z)→room acc (enc (l.getD i z))→body (acc,(i:Int))=some (.inl (acc++enc (l.getD i z),((i+1:Nat):Int))))
  (he:∀ acc,body (acc,(l.length:Int))=some (.inr acc)) (hok:∀ x ∈ l,ok x) (acc:List Int) (hr:room acc (l.flatMap enc)):zc0 body (acc,0)=some (acc++l.flatMap enc):=by
 have key:∀ k i (acc:List Int),i+k=l.length→room acc ((l.drop i).flatMap enc)→zc0 body (acc,(i:Int))=some (acc++(l.drop i).flatMap enc):=by
  intro k
  induction k with
  | zero =>
   intro i acc hi _
   have:i=l.length:=by omega
   subst this
   rw [ze0,iR,he]
   simp
  | succ k ih =>
   intro i acc hi hrm
   have hlt:i < l.length:=by omega
   rw [zaq9 l i z hlt] at hrm ⊢
   rw [fD] at hrm ⊢
   rw [ze0,hs i acc hlt (hok _ (zn0 (z:=z) hlt)) hrm.left]
   simp only
   rw [ih (i+1) _ (by omega) hrm.right,cG]
 exact key l.length 0 acc (by omega) hr
theorem zby5:∀ (n:Nat) (e:aN),_root_.SizeOf.sizeOf e < n→okE e=true→zp9 e≤24→∀ l,room l (encE e)→zJ4 n l e=some (l++encE e)∧zak1 n l e=some (l++encE e)
 | 0,_,h,_,_,_,_=>by omega
 | n+1,e,h,hok,hn,l,hr=>by
  show zH6 (zJ4 n) l e=_∧zaf8 (zak1 n) l e=_
  unfold zH6 zaf8
  have hl:=zH2 e.bE
  have hne:=zQ2 e
  rw [zbm8] at hr ⊢
  by_cases c:e.bE.length=0
  ·obtain ⟨k0,k1,k2⟩:=(zbj7 c).1 hok
   have hk:okI e.k:=by rw [k0]; unfold okI; omega
   rw [zaS0 hk hr.left,zad0 hk hr.left,Option.bind_some,Option.bind_some]
   have hr1:=hr.right
   rw [bY k0] at hr1 ⊢
   have ht:=zbX5 (by have:=zbn2 k1; omega) hr1.left
   rw [bY (by simpa using k0),bY (by simpa using k0),ht.1,ht.2,Option.bind_some,Option.bind_some,zbt9 (zbn1 k2) hr1.right,zbb3 (zbn1 k2) hr1.right]
   simp only [cG]
   exact ⟨rfl,rfl⟩
  ·obtain ⟨⟨k0,k1,k2⟩,k3⟩:=(zbj8 c).1 hok
   have hk:okI e.k:=by unfold okI; omega
   have kn:¬ e.k=0:=by omega
   rw [zaS0 hk hr.left,zad0 hk hr.left,Option.bind_some,Option.bind_some]
   have hr1:=hr.right
   rw [bW kn] at hr1 ⊢
   have hc:okI (e.bE.length:Int):=by unfold okI; omega
   rw [bW (by simpa using kn),bW (by simpa using kn),zaS0 hc hr1.left,zad0 hc hr1.left,Option.bind_some,Option.bind_some]
   have hF:∀ k ∈ e.bE,okE k=true∧zp9 k≤24∧_root_.SizeOf.sizeOf k < n:=fun k hk=>⟨zby3 k3 hk,by have:=zaL5 hk; omega,zao4 h hk⟩
   have w1:=zU8 (body:=zL2 (zJ4 n) e) (enc:=encE) (ok:=fun k=>okE k=true∧zp9 k≤24∧_root_.SizeOf.sizeOf k < n) e.bE aN.zero (by omega) (fun i acc hi hx ha=>by
    unfold zL2
    simp only
    rw [bY (by simpa using hi),gdp (by omega)]
    simp only [Int.toNat_natCast]
    rw [(zby5 n _ hx.2.2 hx.1 hx.2.1 acc ha).1,Option.bind_some,zd0 i (by omega)]) (fun acc=>by unfold zL2; simp) hF _ hr1.right
   have w2:=zU8 (body:=zaj6 (zak1 n) e) (enc:=encE) (ok:=fun k=>okE k=true∧zp9 k≤24∧_root_.SizeOf.sizeOf k < n) e.bE aN.zero (by omega) (fun i acc hi hx ha=>by
    unfold zaj6
    simp only
    rw [bY (by simpa using hi),gdp (by omega)]
    simp only [Int.toNat_natCast]
    rw [(zby5 n _ hx.2.2 hx.1 hx.2.1 acc ha).2,Option.bind_some,zd0 i (by omega)]) (fun acc=>by unfold zaj6; simp) hF _ hr1.right
   rw [w1,w2]
   simp only [cG]
   exact ⟨rfl,rfl⟩
theorem zcU9 {q:aB} (h:OkQ q) {l:List Int} (hr:room l (encQ q)):zk3 l q=some (l++encQ q):=by
 have lh:=h.lh; have lc:=h.lc; have lw:=h.lw
 have o1:okI (q.aS.length:Int):=by unfold okI; omega
 have o2:okI (q.aI.length:Int):=by unfold okI; omega
 have o3:okI (q.aV.length:Int):=by unfold okI; omega
 unfold zk3
 unfold encQ at hr ⊢
 rw [(zbX5 h.name hr.left).1,Option.bind_some]
 replace hr:=hr.right
 have e5:[q.aA.kind,q.aA.aT,q.aA.home,q.gen,(q.aS.length:Int)].flatMap encI=encI q.aA.kind++(encI q.aA.aT++(encI q.aA.home++(encI q.gen++encI (q.aS.length:Int)))):=by simp
 have hr5:room (l++encT q.aA.name) ([q.aA.kind,q.aA.aT,q.aA.home,q.gen,(q.aS.length:Int)].flatMap encI):=by
  rw [e5]; unfold room at hr ⊢; simp only [cA] at hr ⊢; omega
 rw [zby4 _ _ (fun x hx=>by
  simp only [cJ,fW,jH] at hx
  rcases hx with rfl|rfl|rfl|rfl|rfl
  ·exact h.kind
  ·exact h.aT
  ·exact h.home
  ·exact h.gen
  ·exact o1) (by simp) hr5,Option.bind_some,e5]
 replace hr:=hr.right.right.right.right.right
 have assoc:l++encT q.aA.name++encI q.aA.kind++encI q.aA.aT++encI q.aA.home++encI q.gen++encI (q.aS.length:Int)=l++encT q.aA.name++(encI q.aA.kind++(encI q.aA.aT++(encI q.aA.home++(encI q.gen++encI (q.aS.length:Int))))):=by simp only [cG]
 rw [assoc] at hr
 have w3:=zU8 (body:=zJ8 q) (enc:=encH) (ok:=fun x=>zb2 x.aP=true∧okA x.aK) q.aS aY.zero (by omega) (fun i acc hi hx ha=>by
  unfold encH at ha ⊢
  unfold zJ8
  simp only
  rw [bY (by simpa using hi),gdp (by omega)]
  simp only [Int.toNat_natCast]
  rw [(zaI2 hx.1 ha.left).1,Option.bind_some,zbt9 hx.2 ha.right,Option.bind_some,zd0 i (by omega),cG]) (fun acc=>by unfold zJ8; simp) h.h _ hr.left
 rw [w3,Option.bind_some]
 replace hr:=hr.right
 unfold zT5
 rw [zaS0 o2 hr.left,Option.bind_some]
 replace hr:=hr.right
 have w2:=zU8 (body:=zJ7 q) (enc:=encC) (ok:=fun x=>zb2 x.aP=true∧okA x.aK∧x.bH=0∧x.bR=0) q.aI aX.zero (by omega) (fun i acc hi hx ha=>by
  unfold encC at ha ⊢
  unfold zJ7
  simp only
  rw [bY (by simpa using hi),gdp (by omega)]
  simp only [Int.toNat_natCast]
  rw [(zaI2 hx.1 ha.left).1,Option.bind_some,zbt9 hx.2.1 ha.right,Option.bind_some,zd0 i (by omega),cG]) (fun acc=>by unfold zJ7; simp) h.c _ hr.left
 rw [w2,Option.bind_some]
 replace hr:=hr.right
 unfold zT4
 rw [zaS0 o3 hr.left,Option.bind_some]
 replace hr:=hr.right
 have w1:=zU8 (body:=zJ6 q) (enc:=encW) (ok:=fun x=>zb2 x.aP=true∧okA x.aK∧okI x.bH∧okI x.bR) q.aV aX.zero (by omega) (fun i acc hi hx ha=>by
  have e4:∀ w:aX,[w.aK.mode,w.aK.aT,w.bH,w.bR].flatMap encI=encA w.aK++(encI w.bH++encI w.bR):=fun w=>by simp [encA]
  unfold encW at ha ⊢
  rw [cG,cG] at ha ⊢
  unfold zJ6
  simp only
  rw [bY (by simpa using hi),gdp (by omega)]
  simp only [Int.toNat_natCast]
  rw [(zaI2 hx.1 ha.left).1,Option.bind_some,zby4 _ _ (fun y hy=>by
   simp only [cJ,fW,jH] at hy
   rcases hy with rfl|rfl|rfl|rfl
   ·exact hx.2.1.1
   ·exact hx.2.1.2
   ·exact hx.2.2.1
   ·exact hx.2.2.2) (by simp) (by rw [e4]; exact ha.right),Option.bind_some,zd0 i (by omega),e4]
  simp only [cG]) (fun acc=>by unfold zJ6; simp) h.w _ hr
 rw [w1,Option.bind_some]
 unfold zaf9
 simp only [cG]
theorem zaK0 (s:aL):zx5 s=some (if zZ3 s=true then (encS s,0) else ([],2)):=by
 unfold zx5
 rw [zQ3,Option.bind_some]
 cases hv:zZ3 s with
 | false=>rfl
 | true =>
  have h:=(zbk3 hv).1
  have lq:=h.lq; have ln:=h.ln
  have hlen:=zbM8 h
  have hr:room [] (encS s):=by unfold room; simp; omega
  simp only [cL,bV,cD,cE]
  unfold encS at hr ⊢
  rw [zaS0 (by unfold okI; omega) hr.left,Option.bind_some]
  replace hr:=hr.right
  have w2:=zU8 (body:=zO5 s) (enc:=encQ) (ok:=OkQ) s.aF aB.zero (by omega) (fun i acc hi hx ha=>by
   unfold zO5
   simp only
   rw [bY (by simpa using hi),gdp (by omega)]
   simp only [Int.toNat_natCast]
   rw [zcU9 hx ha,Option.bind_some,zd0 i (by omega)]) (fun acc=>by unfold zO5; simp) h.q _ hr.left
  rw [w2,Option.bind_some]
  replace hr:=hr.right
  unfold zZ5
  rw [zaS0 (by unfold okI; omega) hr.left,Option.bind_some]
  replace hr:=hr.right
  have w1:=zU8 (body:=zO4 s) (enc:=encN) (ok:=fun n=>zb2 n.aP=true∧okI n.gen∧okE n.bS=true∧fitE n.bS=true) s.bB bN.zero (by omega) (fun i acc hi hx ha=>by
   have hf:=hx.2.2.2
   unfold fitE at hf
   simp only [bX,cB] at hf
   unfold encN at ha ⊢
   unfold zO4
   simp only
   rw [bY (by simpa using hi),gdp (by omega)]
   simp only [Int.toNat_natCast]
   rw [(zaI2 hx.1 ha.left).1,Option.bind_some,zaS0 hx.2.1 ha.right.left,Option.bind_some]
   unfold zk7
   rw [(zby5 _ _ (eC _) hx.2.2.1 hf.2 _ ha.right.right).1,Option.bind_some,zd0 i (by omega)]
   simp only [cG]) (fun acc=>by unfold zO4; simp) h.n _ hr
  rw [w1,Option.bind_some]
  unfold zak5
  simp only [cG,List.nil_append]
theorem zbK6 (s:aL):zS4 s=some (if zZ3 s=true then (encS s,0) else ([],2)):=by
 unfold zS4
 rw [zbj9,Option.bind_some]
 cases hv:zZ3 s with
 | false=>rfl
 | true =>
  have h:=(zbk3 hv).1
  have lq:=h.lq; have ln:=h.ln
  have hlen:=zbM8 h
  have hr:room [] (encS s):=by unfold room; simp; omega
  simp only [cL,bV,cD,cE]
  unfold encS at hr ⊢
  rw [zad0 (by unfold okI; omega) hr.left,Option.bind_some]
  replace hr:=hr.right
  have w2:=zU8 (body:=zT6 s) (enc:=encQ) (ok:=OkQ) s.aF aB.zero (by omega) (fun i acc hi hx ha=>by
   unfold zT6
   simp only
   rw [bY (by simpa using hi),gdp (by omega)]
   simp only [Int.toNat_natCast]
   have lh:=hx.lh; have lc:=hx.lc; have lw:=hx.lw
   unfold encQ at ha ⊢
   rw [(zbX5 hx.name ha.left).2,Option.bind_some]
   replace ha:=ha.right
   rw [zad0 hx.kind ha.left,Option.bind_some]
   replace ha:=ha.right
   rw [zad0 hx.aT ha.left,Option.bind_some]
   replace ha:=ha.right
   rw [zad0 hx.home ha.left,Option.bind_some]
   replace ha:=ha.right
   rw [zad0 hx.gen ha.left,Option.bind_some]
   replace ha:=ha.right
   rw [zad0 (by unfold okI; omega) ha.left,Option.bind_some]
   replace ha:=ha.right
   have v5:=zU8 (acc:=acc++encT (s.aF.getD i aB.zero).aA.name++encI (s.aF.getD i aB.zero).aA.kind++encI (s.aF.getD i aB.zero).aA.aT++encI (s.aF.getD i aB.zero).aA.home++encI (s.aF.getD i aB.zero).gen++encI ((s.aF.getD i aB.zero).aS.length:Int)) (body:=zac4 s (acc,(i:Int))) (enc:=encH) (ok:=fun x=>zb2 x.aP=true∧okA x.aK) (s.aF.getD i aB.zero).aS aY.zero (by omega) (fun j acc2 hj hy hb=>by
    unfold encH at hb ⊢
    unfold zac4
    simp only [Int.toNat_natCast]
    rw [bY (by simpa using hj),gdp (by omega),(zaI2 hy.1 hb.left).2,Option.bind_some,gdp (by omega),zbb3 hy.2 hb.right,Option.bind_some,zd0 j (by omega),cG]) (fun acc2=>by unfold zac4; simp) hx.h ha.left
   rw [v5,Option.bind_some]
   replace ha:=ha.right
   unfold zal7
   simp only [Int.toNat_natCast]
   rw [zad0 (by unfold okI; omega) ha.left,Option.bind_some]
   replace ha:=ha.right
   have v4:=zU8 (body:=zac3 s (acc,(i:Int))) (enc:=encC) (ok:=fun x=>zb2 x.aP=true∧okA x.aK∧x.bH=0∧x.bR=0) (s.aF.getD i aB.zero).aI aX.zero (by omega) (fun j acc2 hj hy hb=>by
    unfold encC at hb ⊢
    unfold zac3
    simp only [Int.toNat_natCast]
    rw [bY (by simpa using hj),gdp (by omega),(zaI2 hy.1 hb.left).2,Option.bind_some,gdp (by omega),zbb3 hy.2.1 hb.right,Option.bind_some,zd0 j (by omega),cG]) (fun acc2=>by unfold zac3; simp) hx.c _ ha.left
   rw [v4,Option.bind_some]
   replace ha:=ha.right
   unfold zal6
   simp only [Int.toNat_natCast]
   rw [zad0 (by unfold okI; omega) ha.left,Option.bind_some]
   replace ha:=ha.right
   have v3:=zU8 (body:=zac2 s (acc,(i:Int))) (enc:=encW) (ok:=fun x=>zb2 x.aP=true∧okA x.aK∧okI x.bH∧okI x.bR) (s.aF.getD i aB.zero).aV aX.zero (by omega) (fun j acc2 hj hy hb=>by
    unfold encW at hb ⊢
    rw [cG,cG] at hb ⊢
    unfold zac2
    simp only [Int.toNat_natCast]
    rw [bY (by simpa using hj),gdp (by omega),(zaI2 hy.1 hb.left).2,Option.bind_some,zbb3 hy.2.1 hb.right.left,Option.bind_some,zad0 hy.2.2.1 hb.right.right.left,Option.bind_some,zad0 hy.2.2.2 hb.right.right.right,Option.bind_some,zd0 j (by omega)]
    simp only [cG]) (fun acc2=>by unfold zac2; simp) hx.w _ ha
   rw [v3,Option.bind_some]
   unfold zaA1
   simp only [zd0 i (show i < 4611686018427387904 by omega),cG]) (fun acc=>by unfold zT6; simp) h.q _ hr.left
  rw [w2,Option.bind_some]
  replace hr:=hr.right
  unfold zal5
  rw [zad0 (by unfold okI; omega) hr.left,Option.bind_some]
  replace hr:=hr.right
  have w1:=zU8 (body:=zac1 s) (enc:=encN) (ok:=fun n=>zb2 n.aP=true∧okI n.gen∧okE n.bS=true∧fitE n.bS=true) s.bB bN.zero (by omega) (fun i acc hi hx ha=>by
   have hf:=hx.2.2.2
   unfold fitE at hf
   simp only [bX,cB] at hf
   unfold encN at ha ⊢
   unfold zac1
   simp only
   rw [bY (by simpa using hi),gdp (by omega)]
   simp only [Int.toNat_natCast]
   rw [(zaI2 hx.1 ha.left).2,Option.bind_some,gdp (by omega),zad0 hx.2.1 ha.right.left,Option.bind_some,gdp (by omega)]
   unfold zw6
   rw [(zby5 _ _ (eC _) hx.2.2.1 hf.2 _ ha.right.right).2,Option.bind_some,zd0 i (by omega)]
   simp only [cG]) (fun acc=>by unfold zac1; simp) h.n _ hr
  rw [w1,Option.bind_some]
  unfold zaA0
  simp only [cG,List.nil_append]
theorem zaX7 {X:Type} {body:Int→Option (Int⊕(Unit⊕X))} (n:Nat) (h:∀ i:Nat,i < n→body (i:Int)=some (.inl ((i:Int)+1))) (he:body (n:Int)=some (.inr (.inl ()))):zc0 body 0=some (.inl ()):=by
 rw [zM3 n (fun _=>none) (Sum.inl ()) (fun i hi=>h i hi) he]
 have:∀ k i,zU5 (fun _:Nat=>(none:Option (Unit⊕X))) k i=none:=by
  intro k
  induction k with
  | zero=>intro i; rfl
  | succ k ih=>intro i; simp only [zU5]; exact ih (i+1)
 rw [this]; rfl
theorem zbq3:∀ (n:Nat) (e:aN),_root_.SizeOf.sizeOf e < n→zp9 e≤24→zT3 n e e=some true
 | 0,_,h,_=>by omega
 | n+1,e,h,hn=>by
  show zE8 (zT3 n) e e=_
  have hl:=zH2 e.bE
  have hne:=zQ2 e
  unfold zE8
  rw [bW (by simp),zaX7 e.bE.length (fun i hi=>by
   unfold zV1
   have hk:=zn0 (z:=aN.zero) hi
   rw [bY (by simpa using hi),gdp (by omega),gdp (by omega)]
   simp only [Int.toNat_natCast]
   rw [zbq3 n _ (zao4 h hk) (by have:=zaL5 hk; omega),Option.bind_some,bW (by simp),zd2 (by omega) (by omega)]) (by unfold zV1; simp)]
  rfl
theorem zbk4:∀ (n:Nat) (e:aN),_root_.SizeOf.sizeOf e < n→zp9 e≤24→zD9 n e e=some true
 | 0,_,h,_=>by omega
 | n+1,e,h,hn=>by
  show zF9 (zD9 n) e e=_
  have hl:=zH2 e.bE
  have hne:=zQ2 e
  unfold zF9
  rw [bY (by simp)]
  unfold za0
  rw [bW (by simp),zaX7 e.bE.length (fun i hi=>by
   unfold zr0
   have hk:=zn0 (z:=aN.zero) hi
   rw [bY (by simpa using hi),gdp (by omega),gdp (by omega)]
   simp only [Int.toNat_natCast]
   rw [zbk4 n _ (zao4 h hk) (by have:=zaL5 hk; omega),Option.bind_some,bW (by simp),zd2 (by omega) (by omega)]) (by unfold zr0; simp)]
  show some ((decide (e.k=e.k)&&decide (e.bF=e.bF))&&true)=_
  simp
theorem zcV0 {s:aL} (h:OkS s):zv5 s s=some true:=by
 have lq:=h.lq; have ln:=h.ln
 unfold zv5
 rw [zcb3 _ _ (by omega) (fun q hq=>by have:=h.q q hq; have:=this.lh; have:=(h.q q hq).lc; have:=(h.q q hq).lw; omega),Option.bind_some,bW (by simp)]
 rw [zaX7 s.bB.length (fun i hi=>by
  have hn:=h.n _ (zn0 (z:=bN.zero) hi)
  have hf:=hn.2.2.2
  unfold fitE at hf
  simp only [bX,cB] at hf
  unfold zau0
  rw [bY (by simpa using hi),gdp (by omega),gdp (by omega)]
  simp only [Int.toNat_natCast]
  have:zi8 (s.bB.getD i bN.zero) (s.bB.getD i bN.zero)=some true:=by
   unfold zi8
   rw [bY (by simp)]
   unfold zg2
   rw [zbq3 _ _ (eC _) hf.2,Option.bind_some]
   simp
  rw [this,Option.bind_some,bW (by simp),zd2 (by omega) (by omega)]) (by unfold zau0; simp)]
 rfl
theorem zcM9:OkS aL.zero:=⟨by decide,by decide,(fun q hq=>by cases hq),(fun n hn=>by cases hn)⟩
def zbX6:aM:=⟨⟨#[97]⟩,{ aC.zero with mode:=5 }⟩
def zbe3:aN:={ aN.zero with bF:=zbX6 }
def zbq4:aJ:=⟨0,1,1⟩
def zaI3:bN:=⟨zbq4,zbe3,3⟩
def zJ0:aL:=⟨[],[zaI3]⟩
theorem zdG8:zY9 zbe3.bF.name=true:=by kernel_rfl
theorem zcN0:zp9 zbe3=1:=by rw [zQ2]; show 1+zz9 []=1; rw [zba7]; rfl
theorem zdv1:zt3 zbe3=1:=by rw [zaX3]; show 1+zv8 []=1; rw [zbt4]; rfl
theorem vE_A:vE zbe3=true:=by
 unfold vE fitE
 rw [zcN0,zdv1,(zcg5 zbe3).2 ⟨[zbX6],by rw [zbE0 rfl,bY ⟨rfl,zdG8,by decide⟩]; rfl,by decide,iG _ _⟩]
 rfl
theorem zby6:zZ3 zJ0=true:=by
 unfold zZ3
 have h1:zar9 zJ0.aF=true:=by decide
 have h2:zaT4 zJ0.bB=true:=by
  unfold zaT4
  show (([0]:List Nat).all fun i=>zby1 [zaI3] i ([zaI3].getD i bN.zero))=true
  simp only [List.all_cons,List.all_nil,eV]
  show zby1 [zaI3] 0 zaI3=true
  unfold zby1
  have:vE zaI3.bS=true:=vE_A
  rw [this]
  decide
 have h3:(zbE2 zJ0).length≤8:=by
  have:=zbm4 (zE5 zJ0.aF++zJ0.bB.map (·.aP))
  have h4:(zE5 zJ0.aF++zJ0.bB.map (·.aP)).length=1:=rfl
  unfold zbE2
  omega
 rw [h1,h2]
 simp [h3]
 decide
theorem zcN1:zW3=some true:=by
 have hp:zq4 0=some zbq4:=by rw [zba5]; rfl
 have hE:zx5 zJ0=some (encS zJ0,0):=by rw [zaK0,zby6]; rfl
 have ok:=(zbk3 zby6).1
 have hD:zq7 (encS zJ0)=some (zJ0,0):=by
  rw [zcx6 ok (by have:=zbM8 ok; omega),zby6]; rfl
 have hpl:zr2 zJ0.bB zbq4=some 0:=by
  unfold zr2 zc1
  rw [ze0]
  have:zx2 zJ0.bB (0,zbq4)=some (.inr (.inr (0,zbq4))):=by
   unfold zx2
   rw [bY (by decide),gdp (by decide)]
   unfold zg8
   rw [zar0]
   rfl
  rw [this]
  rfl
 have hN:zy9 zJ0 zbq4=some (zaI3,true):=by
  unfold zy9
  rw [hpl,Option.bind_some,bY (by decide),gdp (by decide)]
  have:zd9 zaI3=some zaI3:=by
   unfold zd9 zd6
   show (zB0 _ zbe3).bind _=_
   unfold zB0
   rw [ze0]
   unfold zad1
   rfl
  show (zd9 zaI3).bind _=_
  rw [this]
  rfl
 have hG:zD6 zJ0 zbq4=some [true]:=by
  unfold zD6
  rw [hpl,Option.bind_some,bY (by decide),zQ3,zby6,Option.bind_some,bW (by decide),gdp (by decide)]
  have:zA7 zbe3=some [zbX6]:=by
   unfold zA7
   rw [zbW6,vE_A,Option.bind_some,bW (by decide)]
   unfold zn5
   show (zE0 _ zbe3).bind _=_
   unfold zE0
   rw [bY (by decide)]
   have:za6 [] zbe3.bF=some false:=by
    unfold za6 za7
    rw [ze0]
    unfold zH9
    rfl
   rw [this]
   rfl
  show (zA7 zbe3).bind _=_
  rw [this,Option.bind_some,ze0]
  have hf:zm4 zJ0.aF zbX6.name=some (-1):=by
   unfold zm4
   rw [ze0]
   unfold zaI5
   rfl
  have h1:zG2 zJ0 zbq4 [zbX6] (0,[])=some (.inl (1,[true])):=by
   unfold zG2
   rw [bY (by decide),gdp (by decide)]
   show (zm4 zJ0.aF zbX6.name).bind _=_
   rw [hf]
   rfl
  have h2:zG2 zJ0 zbq4 [zbX6] (1,[true])=some (.inr [true]):=by
   unfold zG2
   rfl
  rw [h1]
  simp only
  rw [ze0,h2]
  rfl
 have hS:zx0 zJ0 zJ0=some true:=by
  unfold zx0
  have q:zb5 zJ0.aF zJ0.aF=some true:=by
   unfold zb5
   rw [bW (by simp),zaX7 0 (fun i hi=>by omega) (by unfold zu1; rfl)]
   rfl
  have n:za3 zJ0.bB zJ0.bB=some true:=by
   unfold za3
   have sn:zg4 zaI3 zaI3=some true:=by
    unfold zg4
    rw [bY (by simp)]
    unfold zf9
    have:zD9 (_root_.SizeOf.sizeOf zaI3.bS+1) zaI3.bS zaI3.bS=some true:=zbk4 _ _ (eC _) (by show zp9 zbe3≤24; rw [zcN0]; decide)
    rw [this,Option.bind_some]
    simp
   rw [bW (by simp),zaX7 1 (fun i hi=>by
    have:i=0:=by omega
    subst this
    unfold zr1
    rw [bY (by decide),gdp (by decide),gdp (by decide)]
    show (zg4 zaI3 zaI3).bind _=_
    rw [sn]
    rfl) (by unfold zr1; rfl)]
   rfl
  rw [q,Option.bind_some,bY rfl,n]
  rfl
 have hP:zx3 zJ0=some [zbq4]:=by
  rw [zaO9 zJ0 (by decide) (by decide)]
  rfl
 unfold zW3
 rw [hp,Option.bind_some]
 show (zx5 zJ0).bind _=_
 rw [hE,Option.bind_some]
 simp only [hD,Option.bind_some,hN,hG,cF,gK,cE]
 show (zx0 zJ0 zJ0).bind _=_
 rw [hS,Option.bind_some]
 simp only [gK,cE,zQ3,zby6,Option.bind_some]
 rw [gdp (by simp)]
 simp [hP]
theorem zdv2 {b:List Int} (o:b.length≤maxLen∧∀ a ∈ b,IntKind.u8.min≤a∧a≤IntKind.u8.max):Src b:=by
 refine ⟨fun x hx=>?_,?_⟩
 ·have h:=o.2 x hx
  have h1:IntKind.u8.min=0:=by decide
  have h2:IntKind.u8.max=255:=by decide
  rw [h1,h2] at h; omega
 ·have h:=o.1
  have h1:maxLen=9223372036854775807:=by decide
  omega
def zdk4 (nm:ByteArray) (h:aY):bL:=⟨1,h.aP,nm,h.aK⟩
def zam0 (nm:ByteArray) (l:List aY):List bL:=l.map (zdk4 nm)
def zbX7 (p:aJ) (nm:ByteArray) (a:aC):bL:=⟨3,p,nm,a⟩
theorem zaF4 (nm:ByteArray) (l:List aY) (hl:l.length≤1000000):zg6 nm l=some (zam0 nm l):=by
 unfold zg6
 rw [zaI0 l aY.zero (zdk4 nm) [] hl (by simp) (fun i s hi hs=>by
  unfold zak8
  have h3:0≤(i:Int)∧(i:Int) < (l.length:Int):=by omega
  have h1:s.length+1≤4294967296:=by omega
  simp only [h1,h3.1,h3.2,cW,eU,zo2,cF,cE,Int.toNat_natCast,zd0 i (show i < 4611686018427387904 by omega)]
  rfl) (fun s=>by unfold zak8; simp)]
 rfl
def zbX8 (t:List aB) (i:Int) (q:aB):List aB:=if 0≤i then t.set i.toNat q else t
def Lens (t:List aB):Prop:=∀ q ∈ t,q.aS.length≤1000∧q.aI.length≤1000∧q.aV.length≤1000
theorem zaE2 (t:List aB) (i:Int) (q:aB) (hl:t.length≤1000) (h0:0≤i) (hi:i < t.length):zg1 t i q=some (zbX8 t i q):=by
 unfold zg1 zbX8
 rw [zh6 (by omega),zh6 (by omega),bY h0]
theorem ValidT.lens {t:List aB} (h:ValidT t):Lens t:=fun q hq=>by
 have:=zai9 (h.each q hq)
 omega
abbrev ResT:=List aB×List bL×Int
def errT (e:Int):ResT:=([],[],e)
def putT (t:List aB) (nm:ByteArray) (x:aB×List aY×Int) (ev:List bL):ResT:=if x.2.2=0 then (zbX8 t (zG6 t nm) x.1,ev++zam0 nm x.2.1,0) else errT x.2.2
def atT (t:List aB) (nm:ByteArray) (f:aB→ResT):ResT:=if zaJ3 t=false then errT 2 else if zG6 t nm < 0 then errT 10 else f (t.getD (zG6 t nm).toNat aB.zero)
def zbe4 (t:List aB) (p:aJ):Bool:=decide (8≤(zE5 t).length)&&!decide (p ∈ zE5 t)
def zaE3 (t:List aB) (p:aJ) (a:aM) (pr:Int):ResT:=atT t a.name fun q=>if zbe4 t p=true then errT 4 else putT t a.name (zZ1 q p a.aK pr) []
def zaK9 (t:List aB) (p:aJ) (nm:ByteArray):ResT:=atT t nm fun q=>putT t nm (zH4 q p) []
def zad9 (t:List aB) (p:aJ) (a:aM):ResT:=atT t a.name fun q=>putT t a.name (zF2 q p a.aK) (if getH q.aS p=a.aK then [] else [zbX7 p a.name a.aK])
theorem nd0 {P:Prop} [Decidable P] (h:P):¬ ((!decide P)=true):=by simp [h]
theorem nd1 {P:Prop} [Decidable P] (h:¬ P):(!decide P)=true:=by simp [h]
theorem zbb4 {t:List aB} {nm:ByteArray} (h:¬ zG6 t nm < 0):0≤zG6 t nm∧zG6 t nm < t.length:=by
 rcases zbj4 (t:=t) (nm:=nm) with h1|⟨i,h1,h2,_⟩
 ·omega
 ·omega
theorem zcn6 {t:List aB} (h:ValidT t) {nm:ByteArray} (hf:¬ zG6 t nm < 0):zl4 (t.getD (zG6 t nm).toNat aB.zero)=true:=by
 have:=zbb4 hf
 exact h.each _ (zn0 (by omega))
theorem zbX9 (t:List aB) (p:aJ) (a:aM) (pr:Int):zad4 t p a pr=some (zaE3 t p a pr):=by
 unfold zad4 zaE3 atT
 rw [zao2,Option.bind_some]
 cases hv:zaJ3 t with
 | false=>rfl
 | true =>
  have h:=(zaj0 t).1 hv
  have hl:=h.len
  have hpl:=h.aD
  rw [ifNT,ifTF,zW5 _ _ (by omega),Option.bind_some]
  by_cases hf:zG6 t a.name < 0
  ·rw [bY (cS hf),bY hf]; rfl
  ·have hr:=zbb4 hf
   have hsh:=zbx6 (t.getD (zG6 t a.name).toNat aB.zero) p a.aK pr
   rw [bW (by rw [cB]; exact hf),bW hf,zaA8 hl h.each,Option.bind_some,zaX1 _ _ (by omega)]
   have e8:decide (((zE5 t).length:Int)=8)=decide (8≤(zE5 t).length):=by rw [iA]; omega
   rw [e8]
   have hfu:zbe4 t p=(decide (8≤(zE5 t).length)&&!decide (p ∈ zE5 t)):=rfl
   have hb2:((if decide (8≤(zE5 t).length)=true then some (decide (p ∈ zE5 t)) else some false):Option Bool).bind (fun v4=>if (decide (8≤(zE5 t).length)&&!v4)=true then some (([],[],4):ResT) else gd (0≤zG6 t a.name∧zG6 t a.name < (t.length:Int)) <| (zK6 (t.getD (zG6 t a.name).toNat aB.zero) p a.aK pr).bind fun v5=>if (!decide (v5.2.2=0))=true then some (([],[],v5.2.2):ResT) else (zg1 t (zG6 t a.name) v5.1).bind fun v6=>(zg6 a.name v5.2.1).bind fun v7=>some ((v6,v7,0):ResT)) =
     if zbe4 t p=true then some (errT 4) else gd (0≤zG6 t a.name∧zG6 t a.name < (t.length:Int)) <| (zK6 (t.getD (zG6 t a.name).toNat aB.zero) p a.aK pr).bind fun v5=>if (!decide (v5.2.2=0))=true then some (([],[],v5.2.2):ResT) else (zg1 t (zG6 t a.name) v5.1).bind fun v6=>(zg6 a.name v5.2.1).bind fun v7=>some ((v6,v7,0):ResT):=by
    rw [hfu]
    by_cases h8:8≤(zE5 t).length
    ·simp only [h8,cF,cE,Option.bind_some,cN]; rfl
    ·simp only [h8,cK,bV,cD,Option.bind_some,eG]
   refine Eq.trans hb2 ?_
   cases hfu2:zbe4 t p with
   | true=>rfl
   | false =>
    rw [ifFT,zh6 (by omega),zbU9,Option.bind_some]
    unfold putT
    simp only [bV,cD]
    by_cases e:(zZ1 (t.getD (zG6 t a.name).toNat aB.zero) p a.aK pr).2.2=0
    ·rw [bW (nd0 e),bY e,zaE2 _ _ _ (by omega) (by omega) (by omega),Option.bind_some,zaF4 _ _ (by have:=hsh.2.2.2; omega)]; rfl
    ·rw [bY (nd1 e),bW e]; rfl
theorem zbK7 (t:List aB) (p:aJ) (nm:ByteArray):zY6 t p nm=some (zaK9 t p nm):=by
 unfold zY6 zaK9 atT
 rw [zao2,Option.bind_some]
 cases hv:zaJ3 t with
 | false=>rfl
 | true =>
  have h:=(zaj0 t).1 hv
  have hl:=h.len
  rw [ifNT,ifTF,zW5 _ _ (by omega),Option.bind_some]
  by_cases hf:zG6 t nm < 0
  ·rw [bY (cS hf),bY hf]; rfl
  ·have hr:=zbb4 hf
   have hsh:=zbq1 (t.getD (zG6 t nm).toNat aB.zero) p
   rw [bW (by rw [cB]; exact hf),bW hf,zh6 (by omega),zbK3,Option.bind_some]
   unfold putT
   dsimp only
   by_cases e:(zH4 (t.getD (zG6 t nm).toNat aB.zero) p).2.2=0
   ·rw [bW (nd0 e),bY e,zaE2 _ _ _ (by omega) (by omega) (by omega),Option.bind_some,zaF4 _ _ (by have:=hsh.2.2.2; omega)]; rfl
   ·rw [bY (nd1 e),bW e]; rfl
theorem zaP1 (t:List aB) (p:aJ) (a:aM):zK5 t p a=some (zad9 t p a):=by
 unfold zK5 zad9 atT
 rw [zao2,Option.bind_some]
 cases hv:zaJ3 t with
 | false=>rfl
 | true =>
  have h:=(zaj0 t).1 hv
  have hl:=h.len
  rw [ifNT,ifTF,zW5 _ _ (by omega),Option.bind_some]
  by_cases hf:zG6 t a.name < 0
  ·rw [bY (cS hf),bY hf]; rfl
  ·have hr:=zbb4 hf
   have hs:=zcn6 h hf
   have hql:=zai9 hs
   have hsh:=zba4 (t.getD (zG6 t a.name).toNat aB.zero) p a.aK
   rw [bW (by rw [cB]; exact hf),bW hf,zh6 (by omega),zI5 _ _ (by omega),Option.bind_some,zh6 (by omega),zbV0,Option.bind_some]
   unfold putT
   have k1:∀ ev:List bL,ev.length≤1→(zF2 (t.getD (zG6 t a.name).toNat aB.zero) p a.aK).2.2=0→zX3 t a (zG6 t a.name) (zF2 (t.getD (zG6 t a.name).toNat aB.zero) p a.aK) ev=some (zbX8 t (zG6 t a.name) (zF2 (t.getD (zG6 t a.name).toNat aB.zero) p a.aK).1,ev++zam0 a.name (zF2 (t.getD (zG6 t a.name).toNat aB.zero) p a.aK).2.1,0):=fun ev hev e=>by
    unfold zX3
    have hg:(zam0 a.name (zF2 (t.getD (zG6 t a.name).toNat aB.zero) p a.aK).2.1).length≤16:=by unfold zam0; rw [dW]; exact hsh.2.2.2
    rw [zaE2 _ _ _ (by omega) (by omega) (by omega),Option.bind_some,zaF4 _ _ (by have:=hsh.2.2.2; omega),Option.bind_some,zh6 (by omega)]
   dsimp only
   by_cases e:(zF2 (t.getD (zG6 t a.name).toNat aB.zero) p a.aK).2.2=0
   ·rw [bW (nd0 e),bY e]
    by_cases e2:getH (t.getD (zG6 t a.name).toNat aB.zero).aS p=a.aK
    ·rw [bW (nd0 e2),bY e2,k1 [] (by simp) e]
    ·rw [bY (nd1 e2),bW e2,zh6 (by decide),k1 _ (by simp) e]; rfl
   ·rw [bY (nd1 e),bW e]; rfl
def ascR:List aH→Option ByteArray→Bool
 | [],_=>true
 | r :: l,pv=>resV r&&((match pv with|none=>true|some n=>decide (ltN n r.name))&&ascR l (some r.name))
theorem zcx8:∀ (l:List aH) (pv:Option ByteArray),ascR l pv=true ↔ (∀ r ∈ l,resV r=true)∧l.Pairwise (fun a b=>ltN a.name b.name)∧∀ n,pv=some n→∀ r ∈ l,ltN n r.name
 | [],pv=>by
  simp only [ascR,fW,iS,eU,jW,gH,true_iff]
  exact .nil
 | q :: t,pv=>by
  simp only [ascR,bX]
  rw [zcx8 t (some q.name)]
  constructor
  ·rintro ⟨h1,h2,h3,h4,h5⟩
   refine ⟨fun x hx=>?_,cX.2 ⟨fun x hx=>h5 _ rfl x hx,h4⟩,fun n hn x hx=>?_⟩
   ·rcases cJ.1 hx with rfl|hx
    ·exact h1
    ·exact h3 x hx
   ·subst hn
    simp only [cB] at h2
    rcases cJ.1 hx with rfl|hx
    ·exact h2
    ·exact zcf9 h2 (h5 _ rfl x hx)
  ·rintro ⟨h1,h2,h3⟩
   have h2':=cX.1 h2
   refine ⟨h1 q (.head _),?_,fun x hx=>h1 x (.tail _ hx),h2'.2,fun n hn x hx=>by cases hn; exact h2'.1 x hx⟩
   cases pv with
   | none=>rfl
   | some n=>exact cS (h3 n rfl q (.head _))
def catV (l:List aH):Bool:=decide (l.length≤8)&&ascR l none
theorem zdk5 (l:List aH):catV l=true ↔ l.length≤8∧(∀ r ∈ l,resV r=true)∧l.Pairwise (fun a b=>ltN a.name b.name):=by
 unfold catV
 rw [bX,cB,zcx8]
 simp
theorem zcV1 (t0:List aH):∀ (t prev:List aH),t0=prev++t →
  walk (fun i q (_:Unit)=>some (if resV q=true∧(i=0∨ltN (t0.getD (i - 1) aH.zero).name q.name) then Sum.inl () else Sum.inr (Sum.inr (α:=Unit) false))) (fun _=>Sum.inl (β:=Bool) ()) t prev.length () =
   some (if ascR t (prev.getLast?.map (·.name))=true then .inl () else .inr false):=by
 intro t
 induction t with
 | nil=>intro prev _; simp [walk,ascR]
 | cons q t ih =>
  intro prev ht
  simp only [walk]
  have hq:(prev.length=0∨ltN (t0.getD (prev.length - 1) aH.zero).name q.name) ↔ (match prev.getLast?.map (·.name) with|none=>true|some n=>decide (ltN n q.name))=true:=by
   by_cases hp:prev=[]
   ·subst hp; simp
   ·have h1:=zcg0 prev (q :: t) aH.zero hp
    rw [ht,h1,iU hp]
    have:prev.length≠0:=fun e=>hp (cQ e)
    simp [this]
  by_cases e:resV q=true∧(prev.length=0∨ltN (t0.getD (prev.length - 1) aH.zero).name q.name)
  ·rw [bY e]
   have:=ih (prev++[q]) (by rw [ht]; simp)
   rw [show (prev++[q]).length=prev.length+1 by simp] at this
   simp only
   have h2:ascR (q :: t) (prev.getLast?.map (·.name))=ascR t (some q.name):=by simp only [ascR,e.1,hq.1 e.2,cN]
   rw [this,h2]
   simp
  ·rw [bW e]
   rw [hq] at e
   have hf:ascR (q :: t) (prev.getLast?.map (·.name))=false:=by
    rw [eA]
    intro hh
    simp only [ascR,bX] at hh
    exact e ⟨hh.1,hh.2.1⟩
   rw [hf]; rfl
theorem zdk6 {body:Int→Option (Int⊕(Unit⊕Bool))} (t:List aH) (hl:t.length≤8)
  (hb:∀ i:Nat,i < t.length→body (i:Int)=some (if resV (t.getD i aH.zero)=true∧(i=0∨ltN (t.getD (i - 1) aH.zero).name (t.getD i aH.zero).name) then .inl ((i+1:Nat):Int) else .inr (.inr false)))
  (he:body (t.length:Int)=some (.inr (.inl ()))):zc0 body 0=some (if ascR t none=true then .inl () else .inr false):=by
 have key:=zan6 (body:=body) t aH.zero (fun i (_:Unit)=>(i:Int)) (fun i q _=>some (if resV q=true∧(i=0∨ltN (t.getD (i - 1) aH.zero).name q.name) then Sum.inl () else Sum.inr (Sum.inr (α:=Unit) false))) (fun _=>Sum.inl (β:=Bool) ())
  (fun i s hi=>by
   rw [hb i hi,Option.map_some]
   split <;> rfl) (fun s=>he) ()
 have:=zcV1 t t [] rfl
 rw [show (0:Int)=(fun (i:Nat) (_:Unit)=>(i:Int)) 0 () from rfl,key]
 exact this
theorem zbk5 (t:List aH):zv6 t=some (catV t):=by
 unfold zv6 catV
 by_cases h8:8 < t.length
 ·have:¬ t.length≤8:=by omega
  rw [bY (by simp; omega)]
  simp [this]
 ·have hl:t.length≤8:=by omega
  rw [bW (by simp; omega),zdk6 t hl (fun i hi=>by
   unfold zap8
   have h3:0≤(i:Int)∧(i:Int) < (t.length:Int):=by omega
   simp only [h3.1,h3.2,cW,eU,zo2,cF,cE,Int.toNat_natCast,zbw9,Option.bind_some,zd0 i (by omega)]
   by_cases e0:i=0
   ·subst e0
    rw [zh6 (by simp)]
    cases resV (t.getD 0 aH.zero) <;> simp
   ·rw [zaD0 i (by omega) (by omega),zh6 (by intro _; omega)]
    simp only [Int.toNat_natCast,show (0:Int) < (i:Int) by omega,cF,cN,e0,iK]
    unfold ltN
    rcases hb (resV (t.getD i aH.zero)) with b1|b1 <;> rcases hb (Op.bytesLess (t.getD (i - 1) aH.zero).name.toList (t.getD i aH.zero).name.toList) with b2|b2 <;> simp [b1,b2,-List.getD_eq_getElem?_getD]) (by unfold zap8; simp)]
  simp only [hl,cF,cN]
  cases hw:ascR t none <;> rfl
def newT (l:List aH):List aB×Int:=if catV l=true then (l.map zdj3,0) else ([],1)
theorem zcn7 (l:List aH):zN3 l=some (newT l):=by
 unfold zN3 newT
 rw [zbk5,Option.bind_some]
 cases h:catV l with
 | false=>rfl
 | true =>
  have hl:=((zdk5 l).1 h).1
  rw [ifNT,zaI0 l aH.zero zdj3 [] (by omega) (by simp) (fun i s hi hs=>by
   unfold zaz9
   have h3:0≤(i:Int)∧(i:Int) < (l.length:Int):=by omega
   have h1:s.length+1≤4294967296:=by omega
   simp only [h1,h3.1,h3.2,cW,zo2,cF,cE,Int.toNat_natCast,zd0 i (show i < 4611686018427387904 by omega)]
   rfl) (fun s=>by unfold zaz9; simp)]
  rfl
theorem zaF5 {α:Type} (l:List α) (i:Nat) (z:α) (h:i < l.length):l.set i (l.getD i z)=l:=by
 rw [bZ,cC h,Option.getD_some,List.set_getElem_self]
theorem zdk7 {body:Int×List aB×List bL→Option ((Int×List aB×List bL)⊕(List aB×List bL))} (t:List aB) (f:aB→aB) (e:aB→List bL) (hl:t.length≤1000) (he:∀ q ∈ t,(e q).length≤100)
  (hb:∀ (i:Nat) (s:List aB) (ev:List bL),i < t.length→s.length=t.length→s.getD i aB.zero=t.getD i aB.zero→ev.length≤100000→body ((i:Int),s,ev)=some (.inl (((i+1:Nat):Int),s.set i (f (t.getD i aB.zero)),ev++e (t.getD i aB.zero))))
  (hend:∀ (s:List aB) (ev:List bL),s.length=t.length→body ((t.length:Int),s,ev)=some (.inr (s,ev))):zc0 body (0,t,[])=some (t.map f,t.flatMap e):=by
 have hev:∀ i,i≤t.length→((t.take i).flatMap e).length≤100 * i:=by
  intro i
  induction i with
  | zero=>intro _; simp
  | succ i ih =>
   intro hi
   rw [zcf7 (z:=aB.zero) (by omega),List.flatMap_append,cA]
   have:=ih (by omega)
   have h2:=he _ (zn0 (z:=aB.zero) (show i < t.length by omega))
   simp only [fD,List.flatMap_nil,dX]
   omega
 obtain ⟨x,hx,hp⟩:=zw0 (body:=body) (fun g=>∃ i:Nat,i≤t.length∧g=((i:Int),(t.take i).map f++t.drop i,(t.take i).flatMap e)) (fun g=>t.length - g.1.toNat) (fun x=>x=(t.map f,t.flatMap e)) (by
  rintro g ⟨i,hi,rfl⟩
  have hsl:((t.take i).map f++t.drop i).length=t.length:=by rw [cA,dW,dG,dS]; omega
  by_cases hlt:i < t.length
  ·left
   have hml:((t.take i).map f).length=i:=by rw [dW,dG]; omega
   have hd:t.drop i=t.getD i aB.zero :: t.drop (i+1):=by rw [fT hlt,bZ,cC hlt]; rfl
   have hg:((t.take i).map f++t.drop i).getD i aB.zero=t.getD i aB.zero:=by
    rw [bZ,fE (by omega),hml,gT,hd]; rfl
   refine ⟨_,hb i _ _ hlt hsl hg (by have:=hev i hi; omega),⟨i+1,by omega,?_⟩,by simp only [Int.toNat_natCast]; omega⟩
   rw [zcf7 (z:=aB.zero) hlt,fG,List.flatMap_append]
   congr 2
   ·rw [gQ _ _ (by omega),hml,gT,hd]
    simp
   ·simp
  ·right
   have:i=t.length:=by omega
   subst this
   refine ⟨_,hend _ _ hsl,?_⟩
   simp) (0,t,[]) ⟨0,by omega,by simp⟩
 rw [hx,hp]
def remE (p:aJ) (q:aB):List bL:=if (zI9 q p).2.2=0 then (if getH q.aS p=aC.zero then [] else [zbX7 p q.aA.name aC.zero])++zam0 q.aA.name (zI9 q p).2.1 else []
def remT (t:List aB) (p:aJ):List aB×List bL:=if zaJ3 t=true then (t.map (remN · p),t.flatMap (remE p)) else ([],[])
theorem zaw9 (nm:ByteArray) (l:List aY):(zam0 nm l).length=l.length:=by unfold zam0; rw [dW]
theorem zcx9 (p:aJ) (q:aB):(remE p q).length≤17:=by
 unfold remE
 have:=(zbq2 q p).2.2.2
 split
 ·rw [cA,zaw9]
  split <;> simp <;> omega
 ·simp
theorem zbY0 {q:aB} (h:zl4 q=true) (p:aJ):(remN q p).aA=q.aA :=
 (zbI1 h (p:=p) (x:={ p with num:=p.num+1 }) fun e=>by
  have h1:p.num+1=p.num:=dR aJ.num e
  omega).2
theorem zbK8 (t:List aB) (p:aJ):zS3 t p=some (remT t p):=by
 unfold zS3 remT
 rw [zao2,Option.bind_some]
 cases hv:zaJ3 t with
 | false=>rfl
 | true =>
  have h:=(zaj0 t).1 hv
  have hl:=h.len
  rw [ifNT,bY rfl,zh6 (by omega),zdk7 t (remN · p) (remE p) (by omega) (fun q _=>by have:=zcx9 p q; omega) (fun i s ev hi hs hg hev=>by
   have hq:=h.each _ (zn0 (z:=aB.zero) hi)
   have hql:=zai9 hq
   have hsh:=(zbq2 (t.getD i aB.zero) p).2.2.2
   have h4:0≤(i:Int)∧(i:Int) < ((s.length:Nat):Int):=by omega
   have hn:=zbY0 hq p
   unfold zac0
   simp only [Int.toNat_natCast,hg]
   rw [bY (cS h4.2),zh6 h4,zbx5 _ _ (by omega) (by omega) (by omega),Option.bind_some]
   cases hp:hasQ (t.getD i aB.zero) p with
   | false =>
    have e:=zaT3 hq hp
    have e1:(zI9 (t.getD i aB.zero) p).2.2≠0:=by rw [e]; decide
    unfold remE remN
    rw [bW e1,bW e1,bY (show (!false)=true from rfl),zd0 i (by omega),dX,← hg,zaF5 _ _ _ (by omega)]
   | true =>
    have e:=zcw0 hq hp
    rw [ifNT,zh6 h4,zI5 _ _ (by omega),Option.bind_some]
    have hz:zn2 (getH (t.getD i aB.zero).aS p)=decide (getH (t.getD i aB.zero).aS p=aC.zero):=rfl
    rw [hz]
    unfold remE
    rw [bY e.1]
    have k2:∀ ev':List bL,ev'.length≤1000000→zab9 p ((i:Int),s,ev) ev'=some (.inl (((i+1:Nat):Int),s.set i (remN (t.getD i aB.zero) p),ev'++zam0 (t.getD i aB.zero).aA.name (zI9 (t.getD i aB.zero) p).2.1)):=fun ev' hev'=>by
     unfold zab9
     simp only [Int.toNat_natCast,hg]
     rw [zh6 h4,zbK4,Option.bind_some,zh6 h4,e.2,hn,zaF4 _ _ (by omega),Option.bind_some,zh6 (by rw [zaw9]; omega),zd0 i (by omega)]
    by_cases e2:getH (t.getD i aB.zero).aS p=aC.zero
    ·rw [bW (nd0 e2),bY e2,k2 _ (by omega),List.nil_append]
    ·rw [bY (nd1 e2),bW e2,zh6 h4,zh6 (by omega),k2 _ (by simp; omega),cG]
     rfl) (fun s ev hs=>by
   unfold zac0
   simp only
   rw [bW (by rw [cB,hs]; omega)])]
  rfl
theorem zaP2 {t:List aB} (h:∀ q ∈ t,zl4 q=true) {p:aJ}:p ∈ zE5 t ↔ ∃ q ∈ t,hasQ q p=true:=by
 unfold zE5
 rw [zaX0,eZ]
 constructor
 ·rintro ⟨q,hq,hp⟩; exact ⟨q,hq,(zbU8 ((zz4 q).1 (h q hq)).1).1 hp⟩
 ·rintro ⟨q,hq,hp⟩; exact ⟨q,hq,(zbU8 ((zz4 q).1 (h q hq)).1).2 hp⟩
theorem zbb5 (t:List aB):(zE5 t).Nodup:=zbm3 (zbm2 _)
theorem ValidT.map {t:List aB} (h:ValidT t) (f:aB→aB) (h1:∀ q ∈ t,zl4 (f q)=true) (h2:∀ q ∈ t,(f q).aA=q.aA) (h3:∀ q ∈ t,∀ p,hasQ (f q) p=true→hasQ q p=true):ValidT (t.map f):=by
 have he:∀ q ∈ t.map f,zl4 q=true:=fun q hq=>by
  obtain ⟨x,hx,rfl⟩:=cR.1 hq
  exact h1 x hx
 refine ⟨by rw [dW]; exact h.len,he,?_,?_⟩
 ·have:=h.asc
  unfold AscN at *
  rw [List.pairwise_map]
  exact this.imp_of_mem fun {a b} ha hb hab=>by rw [h2 a ha,h2 b hb]; exact hab
 ·refine eJ (eP (zbb5 _) fun x hx=>?_) h.aD
  obtain ⟨q,hq,hp⟩:=(zaP2 he).1 hx
  obtain ⟨y,hy,rfl⟩:=cR.1 hq
  exact (zaP2 h.each).2 ⟨y,hy,h3 y hy x hp⟩
theorem zcn8 {t:List aB} (h:ValidT t) (p:aJ):remT t p=(t.map (remN · p),t.flatMap (remE p)):=by
 unfold remT; rw [bY ((zaj0 t).2 h)]
theorem zcG9 {t:List aB} (h:ValidT t) (p:aJ):ValidT (remT t p).1:=by
 rw [zcn8 h]
 exact h.map _ (fun q hq=>zcm3 (h.each q hq) p) (fun q hq=>zbY0 (h.each q hq) p) fun q hq x hx=>((zdj0 (h.each q hq) p x).1 hx).1
theorem zdv3 {t:List aB} (h:ValidT t) (p:aJ):(remT t p).2.length≤136:=by
 rw [zcn8 h]
 have:∀ l:List aB,(l.flatMap (remE p)).length≤17 * l.length:=by
  intro l
  induction l with
  | nil=>simp
  | cons q l ih=>rw [fD,cA,List.length_cons]; have:=zcx9 p q; omega
 have h1:=this t
 have h2:=h.len
 show (t.flatMap (remE p)).length≤136
 omega
inductive StepQ (q:aB):aB→Prop where
 | same:StepQ q q
 | claim (p:aJ) (a:aC) (pr:Int) (h:(zZ1 q p a pr).2.2=0):StepQ q (zZ1 q p a pr).1
 | cancel (p:aJ) (h:(zH4 q p).2.2=0):StepQ q (zH4 q p).1
 | lower (p:aJ) (a:aC) (h:(zF2 q p a).2.2=0):StepQ q (zF2 q p a).1
 | remove (p:aJ) (h:(zI9 q p).2.2=0):StepQ q (zI9 q p).1
theorem zaj2 {q x:aB} (h:zl4 q=true) (hx:StepQ q x):zl4 x=true∧x.aA=q.aA:=by
 have hr:∀ y:aB,(zM7 y).1.aA=y.aA:=fun y=>(zcM0 y).2
 cases hx with
 | same=>exact ⟨h,rfl⟩
 | claim p a pr h0 =>
  obtain ⟨_,_,_,_,_,hh⟩:=zbm1 h0
  rcases hh with ⟨_,e⟩|⟨_,_,e,hs⟩|⟨_,_,_,e,hs⟩
  ·rw [e]; exact ⟨h,rfl⟩
  ·rw [e,hr]; exact ⟨zab1 hs,rfl⟩
  ·rw [e,hr]; exact ⟨zab1 hs,rfl⟩
 | cancel p h0=>obtain ⟨_,_,_,e,hs⟩:=zaO3 h0; rw [e,hr]; exact ⟨zab1 hs,rfl⟩
 | lower p a h0 =>
  obtain ⟨_,_,_,_,_,hh⟩:=zaL4 h0
  rcases hh with ⟨_,e⟩|⟨_,e,hs⟩
  ·rw [e]; exact ⟨h,rfl⟩
  ·rw [e,hr]; exact ⟨zab1 hs,rfl⟩
 | remove p h0=>obtain ⟨_,_,_,e,hs⟩:=zbt1 h0; rw [e,hr]; exact ⟨zab1 hs,rfl⟩
theorem zaS1 (q:aB) (x:aJ):hasQ (zM7 q).1 x=hasQ q x:=by rw [zM8,zcM2,zcM1]
theorem zcV2 {q:aB} {p:aJ} {a:aC} {pr:Int} (h:(zZ1 q p a pr).2.2=0) {x:aJ} (hx:hasQ (zZ1 q p a pr).1 x=true):hasQ q x=true∨x=p:=by
 obtain ⟨_,_,_,_,_,hh⟩:=zbm1 h
 rcases hh with ⟨_,e⟩|⟨_,_,e,_⟩|⟨_,_,_,e,_⟩
 ·rw [e] at hx; exact .inl hx
 ·rw [e,zaS1,zG5] at hx
  rcases hx with ⟨w,hw,ew⟩|hx
  ·unfold ordQ claimC at hw
   simp only [cU,dQ] at hw
   rcases hw with (hw|hw)|hw
   ·exact .inl ((zG5 q x).2 (.inl ⟨w,dI _ hw,ew⟩))
   ·rw [hw] at ew; exact .inr ew.symm
   ·exact .inl ((zG5 q x).2 (.inl ⟨w,dA _ hw,ew⟩))
  ·exact .inl ((zG5 q x).2 (.inr hx))
 ·rw [e,zaS1,zG5] at hx
  rcases hx with ⟨w,hw,ew⟩|hx
  ·unfold ordQ claimW zbi6 at hw
   simp only [cU,cJ,cR] at hw
   rcases hw with hw|hw|hw|⟨y,hy,rfl⟩
   ·exact .inl ((zG5 q x).2 (.inl ⟨w,dI _ hw,ew⟩))
   ·exact .inl ((zG5 q x).2 (.inl ⟨w,dA _ (gC hw),ew⟩))
   ·rw [hw] at ew; exact .inr ew.symm
   ·exact .inl ((zG5 q x).2 (.inl ⟨y,dA _ (gD hy),ew⟩))
  ·exact .inl ((zG5 q x).2 (.inr hx))
theorem zcH0 {q:aB} {p:aJ} (h:(zH4 q p).2.2=0) {x:aJ} (hx:hasQ (zH4 q p).1 x=true):hasQ q x=true:=by
 obtain ⟨_,_,_,e,_⟩:=zaO3 h
 rw [e,zaS1,zG5] at hx
 rcases hx with ⟨w,hw,ew⟩|hx
 ·unfold ordQ zaF2 at hw
  simp only [cU,zba3] at hw
  rcases hw with hw|hw
  ·exact (zG5 q x).2 (.inl ⟨w,dI _ hw.1,ew⟩)
  ·exact (zG5 q x).2 (.inl ⟨w,dA _ hw.1,ew⟩)
 ·exact (zG5 q x).2 (.inr hx)
theorem zcV3 {q:aB} {p:aJ} {a:aC} (h:(zF2 q p a).2.2=0) {x:aJ} (hx:hasQ (zF2 q p a).1 x=true):hasQ q x=true:=by
 obtain ⟨_,_,hp,_,_,hh⟩:=zaL4 h
 rcases hh with ⟨_,e⟩|⟨_,e,_⟩
 ·rw [e] at hx; exact hx
 ·rw [e,zaS1,zG5] at hx
  rcases hx with hx|hx
  ·exact (zG5 q x).2 (.inl hx)
  ·refine (zG5 q x).2 (.inr ?_)
   by_cases e:x=p
   ·rw [e]; exact hp
   ·unfold zaJ2 at hx
    rwa [zR4 e] at hx
theorem ValidT.set {t:List aB} (h:ValidT t) {i:Nat} (hi:i < t.length) {q:aB} (p:aJ) (h1:zl4 q=true) (h2:q.aA=(t.getD i aB.zero).aA) (h3:∀ x,hasQ q x=true→x ∈ zE5 t∨x=p)
  (h4:zbe4 t p=false):ValidT (t.set i q):=by
 have he:∀ y ∈ t.set i q,zl4 y=true:=fun y hy=>by
  rcases gS hy with hy|rfl
  ·exact h.each y hy
  ·exact h1
 refine ⟨by rw [dJ]; exact h.len,he,?_,?_⟩
 ·have ha:=h.asc
  unfold AscN at *
  rw [fH] at ha ⊢
  have hr:∀ k (hk:k < (t.set i q).length),((t.set i q)[k]).aA=(t[k]'(by rw [dJ] at hk; exact hk)).aA:=fun k hk=>by
   rw [List.getElem_set]
   split
   ·next e=>subst e; rw [h2,bZ,cC hi]; rfl
   ·rfl
  intro a b hla hlb hab
  rw [hr a hla,hr b hlb]
  exact ha a b _ _ hab
 ·have hsub:∀ x ∈ zE5 (t.set i q),x ∈ zE5 t∨x=p:=fun x hx=>by
   obtain ⟨y,hy,hp⟩:=(zaP2 he).1 hx
   rcases gS hy with hy|rfl
   ·exact .inl ((zaP2 h.each).2 ⟨y,hy,hp⟩)
   ·exact h3 x hp
  have hpl:=h.aD
  by_cases hp:p ∈ zE5 t
  ·refine eJ (eP (zbb5 _) (l₂:=zE5 t) fun x hx=>?_) hpl
   rcases hsub x hx with hx|rfl
   ·exact hx
   ·exact hp
  ·have h5:(zE5 t).length < 8:=by
    unfold zbe4 at h4
    simp only [hp,cK,cY,eV,dD] at h4
    omega
   have:=eP (zbb5 (t.set i q)) (l₂:=p :: zE5 t) fun x hx=>by
    rcases hsub x hx with hx|rfl
    ·exact .tail _ hx
    ·exact .head _
   rw [List.length_cons] at this
   omega
theorem zaB0 {t:List aB} (h:ValidT t) {i:Nat} (hi:i < t.length) {x:aJ} (hx:hasQ (t.getD i aB.zero) x=true):x ∈ zE5 t:=(zaP2 h.each).2 ⟨_,zn0 hi,hx⟩
theorem zcN2 {t:List aB} {p:aJ} (h:p ∈ zE5 t):zbe4 t p=false:=by unfold zbe4; simp [h]
theorem zcy0 {t:List aB} {nm:ByteArray} {f:aB→ResT} (h:(atT t nm f).2.2=0):ValidT t∧∃ i:Nat,zG6 t nm=i∧i < t.length∧(t.getD i aB.zero).aA.name=nm∧atT t nm f=f (t.getD i aB.zero):=by
 unfold atT at h ⊢
 cases hv:zaJ3 t with
 | false=>rw [hv,bY rfl] at h; exact absurd h (by decide)
 | true =>
  rw [hv,bW (by decide)] at h
  rw [bW (by decide)]
  by_cases hf:zG6 t nm < 0
  ·rw [bY hf] at h; exact absurd h (by decide)
  ·rw [bW hf]
   rcases zbj4 (t:=t) (nm:=nm) with h1|⟨i,h1,h2,h3⟩
   ·omega
   ·exact ⟨(zaj0 t).1 hv,i,h1,h2,h3,by rw [h1]; rfl⟩
theorem zbY1 {t:List aB} {nm:ByteArray} {x:aB×List aY×Int} {ev:List bL} (h:(putT t nm x ev).2.2=0):x.2.2=0∧putT t nm x ev=(zbX8 t (zG6 t nm) x.1,ev++zam0 nm x.2.1,0):=by
 unfold putT at h ⊢
 by_cases e:x.2.2=0
 ·rw [bY e]; exact ⟨e,rfl⟩
 ·rw [bW e] at h; exact absurd h e
theorem zaX8 (t:List aB) (i:Nat) (q:aB):zbX8 t (i:Int) q=t.set i q:=by unfold zbX8; rw [bY (by omega)]; rfl
theorem zcV4 {t:List aB} {p:aJ} {a:aM} {pr:Int} (h:(zaE3 t p a pr).2.2=0):∃ i:Nat,i < t.length∧(t.getD i aB.zero).aA.name=a.name∧zG6 t a.name=i∧(zZ1 (t.getD i aB.zero) p a.aK pr).2.2=0∧(zaE3 t p a pr).1=t.set i (zZ1 (t.getD i aB.zero) p a.aK pr).1∧ValidT t∧ValidT (zaE3 t p a pr).1:=by
 unfold zaE3 at h ⊢
 obtain ⟨hv,i,h1,h2,h3,e⟩:=zcy0 h
 rw [e] at h ⊢
 cases hfu:zbe4 t p with
 | true=>rw [hfu,bY rfl] at h; exact absurd h (by decide)
 | false =>
  rw [hfu,bW (by decide)] at h
  rw [bW (by decide)]
  obtain ⟨e0,e1⟩:=zbY1 h
  rw [e1,h1,zaX8]
  have hq:=hv.each _ (zn0 (z:=aB.zero) h2)
  have hs:=zaj2 hq (.claim p a.aK pr e0)
  refine ⟨i,h2,h3,rfl,e0,rfl,hv,hv.set h2 p hs.1 hs.2 (fun x hx=>?_) hfu⟩
  rcases zcV2 e0 hx with hx|hx
  ·exact .inl (zaB0 hv h2 hx)
  ·exact .inr hx
theorem zcH1 {t:List aB} {p:aJ} {nm:ByteArray} (h:(zaK9 t p nm).2.2=0):∃ i:Nat,i < t.length∧(zaK9 t p nm).1=t.set i (zH4 (t.getD i aB.zero) p).1∧ValidT t∧ValidT (zaK9 t p nm).1:=by
 unfold zaK9 at h ⊢
 obtain ⟨hv,i,h1,h2,h3,e⟩:=zcy0 h
 rw [e] at h ⊢
 obtain ⟨e0,e1⟩:=zbY1 h
 rw [e1,h1,zaX8]
 have hq:=hv.each _ (zn0 (z:=aB.zero) h2)
 have hs:=zaj2 hq (.cancel p e0)
 obtain ⟨_,_,hw,_,_⟩:=zaO3 e0
 have hp:hasQ (t.getD i aB.zero) p=true:=by unfold hasQ; rw [hw]; rfl
 exact ⟨i,h2,rfl,hv,hv.set h2 p hs.1 hs.2 (fun x hx=>.inl (zaB0 hv h2 (zcH0 e0 hx))) (zcN2 (zaB0 hv h2 hp))⟩
theorem zch1 {t:List aB} {p:aJ} {a:aM} (h:(zad9 t p a).2.2=0):∃ i:Nat,i < t.length∧(zad9 t p a).1=t.set i (zF2 (t.getD i aB.zero) p a.aK).1∧ValidT t∧ValidT (zad9 t p a).1:=by
 unfold zad9 at h ⊢
 obtain ⟨hv,i,h1,h2,h3,e⟩:=zcy0 h
 rw [e] at h ⊢
 obtain ⟨e0,e1⟩:=zbY1 h
 rw [e1,h1,zaX8]
 have hq:=hv.each _ (zn0 (z:=aB.zero) h2)
 have hs:=zaj2 hq (.lower p a.aK e0)
 obtain ⟨_,_,hp0,_,_,_⟩:=zaL4 e0
 have hp:hasQ (t.getD i aB.zero) p=true:=(zG5 _ _).2 (.inr hp0)
 exact ⟨i,h2,rfl,hv,hv.set h2 p hs.1 hs.2 (fun x hx=>.inl (zaB0 hv h2 (zcV3 e0 hx))) (zcN2 (zaB0 hv h2 hp))⟩
end Ab
end Go.Proofs.YtcggeefhhegeoaaGreatDoor
