import Derived.Test.YtenebhlnfjcffaaGreatDoorProcs
namespace Go.Proofs.YtenebhlnfjcffaaGreatDoor
namespace Ab
set_option linter.unusedVariables false
set_option linter.unusedSimpArgs false
theorem ifNT {α:Type} (x y:α):(if (!true)=true then x else y)=y:=rfl
theorem ifTF {α:Type} (x y:α):(if true=false then x else y)=y:=rfl
theorem ifFT {α:Type} (x y:α):(if false=true then x else y)=y:=rfl
theorem zbT2 (l:List aH) (hl:l.length≤4294967296):zc1 l=some (l.mergeSort fun x y=>!decide (ltP y x)):=by
 unfold zc1
 rw [zn3 hl]
 congr 2
theorem zcC9 {l:List aH} {i:Nat} (h:i+1 < l.length):l.take (i+2)=l.take i++[l.getD i aH.zero,l.getD (i+1) aH.zero]:=by
 rw [fP (by omega),fP (by omega),dI]
 congr 1
 rw [bU,bX (by omega),bU,bX h]
 rfl
theorem zbu1 {l:List aH} {i:Nat} (h:i < l.length):l.take (i+1)=l.take i++[l.getD i aH.zero]:=by
 rw [fP h]
 congr 1
 rw [bU,bX h]
 rfl
theorem zbu2 {l:List aH} {i:Nat} (h:i+1 < l.length):dst (l.take (i+2))=if l.getD i aH.zero=l.getD (i+1) aH.zero then dst (l.take (i+1)) else dst (l.take (i+1))++[l.getD (i+1) aH.zero]:=by
 rw [zcC9 h,zbT1,← zbu1 (by omega)]
theorem zbb1 {l m:List aH} {i j:Nat} (h:l.drop i=m.drop i) (hij:i≤j):l.getD j aH.zero=m.getD j aH.zero:=by
 have e:∀ x:List aH,x.getD j aH.zero=(x.drop i).getD (j - i) aH.zero:=fun x=>by
  rw [bU,bU,dR,show i+(j - i)=j by omega]
 rw [e l,e m,h]
theorem zbA6 (a:List aH) (g:Nat) (hg:1≤g) (hgl:g < a.length) (hl:a.length≤1000000) (he:a.getD g aH.zero=a.getD (g - 1) aH.zero) (hd:dst (a.take g)=a.take g) :
  ∃ x,zc6 (zt9 a g) ((g:Int),1,a)=some x∧∃ k:Nat,x.1=(k:Int)∧x.2.length=a.length∧k≤a.length∧x.2.take k=dst a:=by
 refine zv4 (fun s=>∃ k k2:Nat,s.1=(k:Int)∧s.2.1=(k2:Int)∧s.2.2.length=a.length∧1≤k2∧g+k2≤a.length∧k+1≤g+k2∧s.2.2.take k=dst (a.take (g+k2))∧s.2.2.drop (g+k2 - 1)=a.drop (g+k2 - 1)) (fun s=>(a.length - s.2.1.toNat)) _ ?_ _ ?_
 ·rintro ⟨k,k2,s⟩ ⟨kn,k2n,h1,h2,h3,h4,h5,h6,h7,h8⟩
  simp only at h1 h2 h3 h7 h8
  subst h1; subst h2
  unfold zt9
  by_cases hlt:g+k2n < a.length
  ·left
   have w:IntKind.i64.wrap ((k2n:Int) - 1)=((k2n - 1:Nat):Int):=by rw [zo7 (by omega) (by omega)]; omega
   have w2:IntKind.i64.wrap ((k2n:Int)+1)=((k2n+1:Nat):Int):=by rw [zo7 (by omega) (by omega)]; omega
   have w3:IntKind.i64.wrap ((kn:Int)+1)=((kn+1:Nat):Int):=by rw [zo7 (by omega) (by omega)]; omega
   have r1:s.getD (g+k2n) aH.zero=a.getD (g+k2n) aH.zero:=zbb1 h8 (by omega)
   have r2:s.getD (g+(k2n - 1)) aH.zero=a.getD (g+(k2n - 1)) aH.zero:=zbb1 h8 (by omega)
   have hdt:=zbu2 (l:=a) (i:=g+(k2n - 1)) (by omega)
   rw [show g+(k2n - 1)+2=g+(k2n+1) by omega,show g+(k2n - 1)+1=g+k2n by omega] at hdt
   simp only [Int.toNat_natCast,w,w2,w3]
   rw [bY (by simp; omega),zn3 (by omega),zn3 (by omega),r1,r2]
   by_cases hne:a.getD (g+k2n) aH.zero=a.getD (g+(k2n - 1)) aH.zero
   ·refine ⟨((kn:Int),((k2n+1:Nat):Int),s),by rw [bW (by simp only [hne,cB,cP,bT,iP])],⟨kn,k2n+1,rfl,rfl,h3,by omega,by omega,by omega,?_,?_⟩,by simp only [Int.toNat_natCast]; omega⟩
    ·simp only
     rw [h7,hdt,bY hne.symm]
    ·simp only
     rw [show g+(k2n+1) - 1=(g+k2n - 1)+1 by omega,← fI,← fI,h8]
   ·rw [bY (by simpa using hne),zn3 (by omega),zn3 (by omega)]
    refine ⟨(((kn+1:Nat):Int),((k2n+1:Nat):Int),s.set kn (a.getD (g+k2n) aH.zero)),rfl,⟨kn+1,k2n+1,rfl,rfl,by simp [h3],by omega,by omega,by omega,?_,?_⟩,by simp only [Int.toNat_natCast]; omega⟩
    ·simp only
     rw [hdt,bW (fun e=>hne e.symm),← h7,zbu1 (by rw [jX]; omega),List.take_set_of_le (by omega),zbz9 _ _ _ _ (by omega)]
    ·simp only
     rw [List.drop_set_of_lt (by omega),show g+(k2n+1) - 1=(g+k2n - 1)+1 by omega,← fI,← fI,h8]
  ·right
   refine ⟨((kn:Int),s),by simp only [Int.toNat_natCast]; rw [bW (by simp; omega)],kn,rfl,h3,by omega,?_⟩
   simp only
   rw [h7,dO (by omega)]
 ·refine ⟨g,1,rfl,rfl,rfl,by omega,by omega,by omega,?_,rfl⟩
  simp only
  have hdt:=zbu2 (l:=a) (i:=g - 1) (by omega)
  rw [show g - 1+2=g+1 by omega,show g - 1+1=g by omega,bY he.symm,hd] at hdt
  exact hdt.symm
theorem zcb6 (a:List aH) (hl:a.length≤1000000):∃ r,za2 a=some (dst a,r):=by
 unfold za2
 by_cases h2:a.length < 2
 ·rw [bY (by simp; omega)]
  refine ⟨a,?_⟩
  have:dst a=a:=by
   match a,h2 with
   | [],_=>rfl
   | [x],_=>rfl
   | x :: y :: t,h=>simp at h; omega
  rw [this]
 ·rw [bW (by simp; omega)]
  obtain ⟨x,hx,hp⟩:=zv4 (body:=zs1 a) (fun g=>∃ n:Nat,g=(n:Int)∧1≤n∧n≤a.length∧dst (a.take n)=a.take n) (fun g=>a.length - g.toNat)
   (fun x=>match x with|.inl _=>dst a=a|.inr z=>z.1=dst a) (by
    rintro g ⟨n,rfl,h1,h3,h4⟩
    unfold zs1
    by_cases hlt:n < a.length
    ·have w:IntKind.i64.wrap ((n:Int) - 1)=((n - 1:Nat):Int):=by rw [zo7 (by omega) (by omega)]; omega
     have w2:IntKind.i64.wrap ((n:Int)+1)=((n+1:Nat):Int):=by rw [zo7 (by omega) (by omega)]; omega
     rw [bY (by simp; omega),zn3 (by omega),w,w2,zn3 (by omega)]
     simp only [Int.toNat_natCast]
     by_cases he:a.getD n aH.zero=a.getD (n - 1) aH.zero
     ·right
      obtain ⟨x,hx,k,hk1,hk2,hk3,hk4⟩:=zbA6 a n h1 hlt hl he h4
      rw [bY (cR he),zn3 (by omega),hx]
      obtain ⟨x1,x2⟩:=x
      simp only at hk1 hk2 hk4
      subst hk1
      rw [Option.bind_some]
      unfold zy9
      simp only [Int.toNat_natCast]
      rw [zn3 (by omega),zn3 (by omega)]
      refine ⟨_,rfl,?_⟩
      simp only
      rw [gK,dI,eU (by simp; omega),jG,Nat.min_self,hk4]
     ·left
      refine ⟨((n+1:Nat):Int),by rw [bW (by simpa using he)],⟨n+1,rfl,by omega,by omega,?_⟩,by simp only [Int.toNat_natCast]; omega⟩
      have hdt:=zbu2 (l:=a) (i:=n - 1) (by omega)
      rw [show n - 1+2=n+1 by omega,show n - 1+1=n by omega,bW (fun e=>he e.symm),h4,← zbu1 hlt] at hdt
      exact hdt
    ·right
     refine ⟨.inl (),by rw [bW (by simp; omega)],?_⟩
     simp only
     rw [dO (by omega)] at h4
     exact h4) 1 ⟨1,rfl,by omega,by omega,by
      match a,h2 with
      | x :: t,_=>simp [dst]⟩
  rw [hx]
  cases x with
  | inl u =>
   simp only at hp
   refine ⟨a,?_⟩
   rw [hp]; rfl
  | inr z =>
   simp only at hp
   refine ⟨z.2,?_⟩
   rw [← hp]; rfl
theorem zax6 (l:List aH) (hl:l.length≤1000000):zm4 l=some (zaO3 l):=by
 unfold zm4
 rw [zn3 (by omega),zbT2 l (by omega),Option.bind_some]
 obtain ⟨r,h⟩:=zcb6 (l.mergeSort fun x y=>!decide (ltP y x)) (by rw [iT]; exact hl)
 rw [h]
 simp only [Option.bind_some]
 rw [zcp1 (zbK2 l) fun x=>List.mem_mergeSort]
theorem zbe9 (l:List aH) (p:aH) (hl:l.length≤1000000):zf8 l p=some (decide (p ∈ l)):=by
 unfold zf8
 have key:=zab1 (body:=zO4 l p) l aH.zero (fun i (_:Unit)=>(i:Int)) (fun _ x _=>some (if x=p then .inr (Sum.inr true) else .inl ())) (fun _=>Sum.inl (β:=Bool) ())
  (fun i s hi=>by
   unfold zO4
   have h3:0≤(i:Int)∧(i:Int) < (l.length:Int):=by omega
   simp only [h3.1,h3.2,cQ,zk1,cB,bZ,Int.toNat_natCast,zd4 i (by omega),Option.map_some,bV]
   split <;> rfl)
  (fun s=>by unfold zO4; simp) ()
 rw [show (0:Int)=(fun (i:Nat) (_:Unit)=>(i:Int)) 0 () from rfl,key]
 have fold:∀ (l:List aH) (i:Nat),walk (fun _ x (_:Unit)=>some (if x=p then .inr (Sum.inr true) else .inl ())) (fun _=>Sum.inl (β:=Bool) ()) l i ()=some (if p ∈ l then .inr true else .inl ()):=by
  intro l
  induction l with
  | nil=>intro i; simp [walk]
  | cons x t ih =>
   intro i
   simp only [walk]
   by_cases e:x=p
   ·subst e; simp
   ·simp only [e,cA,cE,fun h:p=x=>e h.symm,hX]
    rw [ih]
    have:¬ p=x:=fun h=>e h.symm
    simp [this]
 rw [fold]
 by_cases hp:p ∈ l <;> simp [hp,zaf9]
theorem zbu3 (q:aF) (h1:q.aL.length≤1000) (h2:q.aS.length≤1000):zp6 q=some ((ordQ q).map (·.aN)):=by
 unfold zp6
 rw [zaO1 q (by omega) (by omega),Option.bind_some]
 have hl:(q.aL++q.aS).length≤2000:=by rw [cI]; omega
 show _=some ((q.aL++q.aS).map (·.aN))
 generalize q.aL++q.aS=l at hl
 have key:=zz1 (body:=zT3 l) l aR.zero (fun i (s:List aH)=>((i:Int),s)) (fun i h s=>some (.inl (zas0 s (some h.aN)))) (fun s=>s) (fun i s=>s.length≤i)
  (fun i s hi hs=>by
   refine ⟨?_,fun s' h=>?_⟩
   ·unfold zT3
    have h1:s.length+1≤4294967296:=by omega
    have h3:0≤(i:Int)∧(i:Int) < (l.length:Int):=by omega
    simp only [h1,h3.1,h3.2,cQ,zk1,cB,bZ,Int.toNat_natCast,zd4 i (by omega),Option.map_some,wmap,zas0]
   ·simp only [cU,fD] at h; subst h; simp [zas0]; omega)
  (fun s hs=>by unfold zT3; simp) [] (by simp)
 rw [show ((0,[]):Int×List aH)=(fun (i:Nat) (s:List aH)=>((i:Int),s)) 0 [] from rfl,key,zau7 (fun h:aR=>some h.aN)]
 simp [zan3]
theorem zaW8 (l:List aT) (hl:l.length≤1000000):ze7 l=some (l.map (·.aN)):=by
 have e:ze7 l=zas6 l:=rfl
 rw [e]; exact zcC6 l hl
def zao6 (q:aF):List aH:=zaO3 (q.bA.map (·.aN)++(ordQ q).map (·.aN))
theorem zbu4 (q:aF) (h0:q.bA.length≤1000) (h1:q.aL.length≤1000) (h2:q.aS.length≤1000):zz5 q=some (zao6 q):=by
 unfold zz5 zao6
 have hl:(ordQ q).length≤2000:=by unfold ordQ; rw [cI]; omega
 rw [zaW8 _ (by omega),Option.bind_some,zbu3 q h1 h2,Option.bind_some,zn3 (by simp; omega),zax6 _ (by simp; omega)]
 rfl
theorem SoundP.lens {q:aF} (h:SoundP q):q.bA.length≤8∧q.aL.length≤8∧q.aS.length≤8∧zcC4 q≤16:=by
 have:=h.cl; have:=h.wl; have:=zax4 h.hv
 unfold zcC4; omega
theorem zal2 {q:aF} (h:zw6 q=true):q.bA.length≤8∧q.aL.length≤8∧q.aS.length≤8∧zcC4 q≤16:=((zaO2 q).1 h).1.lens
theorem zbE9:∀ x:List UInt8,Op.bytesLess x x=false
 | []=>rfl
 | a :: x=>by simp [Op.bytesLess,zbE9 x]
theorem zbT3:∀ {x y z:List UInt8},Op.bytesLess x y=true→Op.bytesLess y z=true→Op.bytesLess x z=true
 | x,[],z,h1,_=>by cases x <;> simp [Op.bytesLess] at h1
 | x,b :: y,[],_,h2=>by simp [Op.bytesLess] at h2
 | [],b :: y,c :: z,_,_=>by simp [Op.bytesLess]
 | a :: x,b :: y,c :: z,h1,h2=>by
  simp only [Op.bytesLess,dK,bS,bV,cY] at h1 h2 ⊢
  rcases h1 with h1|⟨rfl,h1⟩
  ·rcases h2 with h2|⟨rfl,h2⟩
   ·exact .inl (UInt8.lt_trans h1 h2)
   ·exact .inl h1
  ·rcases h2 with h2|⟨rfl,h2⟩
   ·exact .inl h2
   ·exact .inr ⟨rfl,zbT3 h1 h2⟩
def ltN (a b:ByteArray):Prop:=Op.bytesLess a.toList b.toList=true
instance (a b:ByteArray):Decidable (ltN a b):=by unfold ltN; infer_instance
theorem zaH1 {a b:ByteArray} (h:ltN a b):a≠b:=fun e=>by
 unfold ltN at h; rw [e,zbE9] at h; cases h
theorem zau9 {a b c:ByteArray} (h:ltN a b) (k:ltN b c):ltN a c:=zbT3 h k
def AscN (t:List aF):Prop:=t.Pairwise fun a b=>ltN a.aB.name b.aB.name
def ascW:List aF→Option ByteArray→Bool
 | [],_=>true
 | q :: t,pv=>zw6 q&&((match pv with|none=>true|some n=>decide (ltN n q.aB.name))&&ascW t (some q.aB.name))
theorem zbu5:∀ (t:List aF) (pv:Option ByteArray),ascW t pv=true ↔ (∀ q ∈ t,zw6 q=true)∧AscN t∧∀ n,pv=some n→∀ q ∈ t,ltN n q.aB.name
 | [],pv=>by
  simp only [ascW,iZ,iG,dU,iF,fC,true_iff]
  exact .nil
 | q :: t,pv=>by
  simp only [ascW,bS]
  rw [zbu5 t (some q.aB.name)]
  constructor
  ·rintro ⟨h1,h2,h3,h4,h5⟩
   refine ⟨fun x hx=>?_,dA.2 ⟨fun x hx=>h5 _ rfl x hx,h4⟩,fun n hn x hx=>?_⟩
   ·rcases cE.1 hx with rfl|hx
    ·exact h1
    ·exact h3 x hx
   ·subst hn
    simp only [bV] at h2
    rcases cE.1 hx with rfl|hx
    ·exact h2
    ·exact zau9 h2 (h5 _ rfl x hx)
  ·rintro ⟨h1,h2,h3⟩
   have h2':=dA.1 h2
   refine ⟨h1 q (.head _),?_,fun x hx=>h1 x (.tail _ hx),h2'.2,fun n hn x hx=>by cases hn; exact h2'.1 x hx⟩
   cases pv with
   | none=>rfl
   | some n=>exact cR (h3 n rfl q (.head _))
def zaO5 (t:List aF):Bool:=decide (t.length≤8)&&ascW t none
def zaO6 (t:List aF):List aH:=zaO3 (t.flatMap zao6)
def zaO7 (t:List aF):Bool:=zaO5 t&&decide ((zaO6 t).length≤8)
structure ValidT (t:List aF):Prop where
 len:t.length≤8
 each:∀ q ∈ t,zw6 q=true
 asc:AscN t
 aX:(zaO6 t).length≤8
theorem zaH2 (t:List aF):zaO5 t=true ↔ t.length≤8∧(∀ q ∈ t,zw6 q=true)∧AscN t:=by
 unfold zaO5
 rw [bS,bV,zbu5]
 simp
theorem zaH3 (t:List aF):zaO7 t=true ↔ ValidT t:=by
 unfold zaO7
 rw [bS,bV,zaH2]
 exact ⟨fun ⟨⟨h1,h2,h3⟩,h4⟩=>⟨h1,h2,h3,h4⟩,fun ⟨h1,h2,h3,h4⟩=>⟨⟨h1,h2,h3⟩,h4⟩⟩
theorem zbF0 {α:Type} (prev t:List α) (z:α) (h:prev≠[]):(prev++t).getD (prev.length - 1) z=prev.getLast h:=by
 have hp:0 < prev.length:=fR.2 h
 rw [bU,dE (by omega),bX (by omega),List.getLast_eq_getElem]; rfl
theorem zcb7 (t0:List aF):∀ (t prev:List aF),t0=prev++t →
  walk (fun i q (_:Unit)=>some (if zw6 q=true∧(i=0∨ltN (t0.getD (i - 1) aF.zero).aB.name q.aB.name) then Sum.inl () else Sum.inr (Sum.inr (α:=Unit) false))) (fun _=>Sum.inl (β:=Bool) ()) t prev.length () =
   some (if ascW t (prev.getLast?.map (·.aB.name))=true then .inl () else .inr false):=by
 intro t
 induction t with
 | nil=>intro prev _; simp [walk,ascW]
 | cons q t ih =>
  intro prev ht
  simp only [walk]
  have hq:(prev.length=0∨ltN (t0.getD (prev.length - 1) aF.zero).aB.name q.aB.name) ↔ (match prev.getLast?.map (·.aB.name) with|none=>true|some n=>decide (ltN n q.aB.name))=true:=by
   by_cases hp:prev=[]
   ·subst hp; simp
   ·have h1:=zbF0 prev (q :: t) aF.zero hp
    rw [ht,h1,jD hp]
    have:prev.length≠0:=fun e=>hp (cO e)
    simp [this]
  by_cases e:zw6 q=true∧(prev.length=0∨ltN (t0.getD (prev.length - 1) aF.zero).aB.name q.aB.name)
  ·rw [bY e]
   have:=ih (prev++[q]) (by rw [ht]; simp)
   rw [show (prev++[q]).length=prev.length+1 by simp] at this
   simp only
   have h2:ascW (q :: t) (prev.getLast?.map (·.aB.name))=ascW t (some q.aB.name):=by simp only [ascW,e.1,hq.1 e.2,cF]
   rw [this,h2]
   simp
  ·rw [bW e]
   rw [hq] at e
   have hf:ascW (q :: t) (prev.getLast?.map (·.aB.name))=false:=by
    rw [dD]
    intro hh
    simp only [ascW,bS] at hh
    exact e ⟨hh.1,hh.2.1⟩
   rw [hf]; rfl
theorem zbu6 {body:Int→Option (Int⊕(Unit⊕Bool))} (t:List aF) (hl:t.length≤8)
  (hb:∀ i:Nat,i < t.length→body (i:Int)=some (if zw6 (t.getD i aF.zero)=true∧(i=0∨ltN (t.getD (i - 1) aF.zero).aB.name (t.getD i aF.zero).aB.name) then .inl ((i+1:Nat):Int) else .inr (.inr false)))
  (he:body (t.length:Int)=some (.inr (.inl ()))):zc6 body 0=some (if ascW t none=true then .inl () else .inr false):=by
 have key:=zab1 (body:=body) t aF.zero (fun i (_:Unit)=>(i:Int)) (fun i q _=>some (if zw6 q=true∧(i=0∨ltN (t.getD (i - 1) aF.zero).aB.name q.aB.name) then Sum.inl () else Sum.inr (Sum.inr (α:=Unit) false))) (fun _=>Sum.inl (β:=Bool) ())
  (fun i s hi=>by
   rw [hb i hi,Option.map_some]
   split <;> rfl) (fun s=>he) ()
 have:=zcb7 t t [] rfl
 rw [show (0:Int)=(fun (i:Nat) (_:Unit)=>(i:Int)) 0 () from rfl,key]
 exact this
theorem zbK3 (t:List aF) (h:∀ q ∈ t,zw6 q=true):(t.flatMap zao6).length≤24 * t.length:=by
 induction t with
 | nil=>simp
 | cons q t ih =>
  have h1:=zal2 (h q (.head _))
  have h2:=zcp0 (q.bA.map (·.aN)++(ordQ q).map (·.aN))
  have h3:=ih fun x hx=>h x (.tail _ hx)
  have h4:(zao6 q).length≤24:=by
   unfold zao6
   unfold ordQ at *
   simp only [cI,dV] at h2
   omega
  rw [List.flatMap_cons,cI,List.length_cons]; omega
theorem zbu7 {α β X:Type} (f:α→List β) (fin:List β→X):∀ (l:List α) (i:Nat) (s:List β),walk (fun _ a s=>some (.inl (s++f a))) fin l i s=some (fin (s++l.flatMap f))
 | [],i,s=>by simp [walk]
 | a :: l,i,s=>by
  simp only [walk,List.flatMap_cons]
  rw [zbu7 f fin l (i+1),dI]
theorem zs3 {α:Type} {l:List α} {i:Nat} {z:α} (h:i < l.length):l.getD i z ∈ l:=by
 rw [bU,bX h]; exact gW h
theorem zbF1 {q:aF} (h:zw6 q=true):(zao6 q).length≤24:=by
 have:=zbK3 [q] fun x hx=>by rw [eJ] at hx; rw [hx]; exact h
 simpa using this
theorem zaO8 {t:List aF} (hl:t.length≤8) (h:∀ q ∈ t,zw6 q=true):zz7 t=some (zaO6 t):=by
 unfold zz7
 have key:=zz1 (body:=zU8 t) t aF.zero (fun i (s:List aH)=>((i:Int),s)) (fun _ q s=>some (.inl (s++zao6 q))) (fun s=>s) (fun i s=>s.length≤24 * i)
  (fun i s hi hs=>by
   have hq:=h _ (zs3 (z:=aF.zero) hi)
   have hql:=zal2 hq
   have hpl:=zbF1 hq
   refine ⟨?_,fun s' h=>?_⟩
   ·unfold zU8
    have h3:0≤(i:Int)∧(i:Int) < (t.length:Int):=by omega
    simp only [h3.1,h3.2,cQ,zk1,cB,bZ,Int.toNat_natCast]
    rw [zbu4 _ (by omega) (by omega) (by omega),Option.bind_some,zn3 (by omega),zd4 i (by omega)]
    rfl
   ·simp only [cU,fD] at h; subst h; rw [cI]; omega)
  (fun s hs=>by unfold zU8; simp) [] (by simp)
 rw [show ((0,[]):Int×List aH)=(fun (i:Nat) (s:List aH)=>((i:Int),s)) 0 [] from rfl,key,zbu7 zao6,List.nil_append,Option.bind_some]
 unfold zan8
 have:=zbK3 t h
 rw [zax6 _ (by omega)]; rfl
theorem zbu8 (t:List aF):zN1 t=some (zaO7 t):=by
 unfold zN1 zaO7 zaO5
 by_cases h8:8 < t.length
 ·have:¬ t.length≤8:=by omega
  rw [bY (by simp; omega)]
  simp [this]
 ·have hl:t.length≤8:=by omega
  rw [bW (by simp; omega),zbu6 t hl (fun i hi=>by
   unfold zad3
   have h3:0≤(i:Int)∧(i:Int) < (t.length:Int):=by omega
   simp only [h3.1,h3.2,cQ,zk1,cB,bZ,Int.toNat_natCast,zbt6,Option.bind_some,zd4 i (by omega)]
   by_cases e0:i=0
   ·subst e0
    rw [zn3 (by simp)]
    cases zw6 (t.getD 0 aF.zero) <;> simp
   ·rw [zad4 i (by omega) (by omega),zn3 (by intro _; omega)]
    simp only [Int.toNat_natCast,show (0:Int) < (i:Int) by omega,cB,cF,e0,hX]
    unfold ltN
    rcases hb (zw6 (t.getD i aF.zero)) with b1|b1 <;> rcases hb (Op.bytesLess (t.getD (i - 1) aF.zero).aB.name.toList (t.getD i aF.zero).aB.name.toList) with b2|b2 <;> simp [b1,b2,-List.getD_eq_getElem?_getD]) (by unfold zad3; simp)]
  simp only [hl,cB,cF]
  cases hw:ascW t none with
  | false=>rfl
  | true =>
   simp only [bZ,Option.bind_some,cF]
   unfold zan9
   rw [zaO8 hl ((zbu5 t none).1 hw).1,Option.bind_some]
   congr 1
   rw [dP]; simp; omega
theorem zav0 {α:Type} (l:List α) (z:α) (p:α→Bool) {body:Int→Option (Int⊕(Unit⊕Int))} (hb:∀ i:Nat,i < l.length→body (i:Int)=some (if p (l.getD i z)=true then .inr (.inr (i:Int)) else .inl ((i+1:Nat):Int)))
  (he:body (l.length:Int)=some (.inr (.inl ()))):zc6 body 0=some (match l.findIdx? p with|some i=>.inr (i:Int)|none=>.inl ()):=by
 have key:=zab1 (body:=body) l z (fun i (_:Unit)=>(i:Int)) (fun i a _=>some (if p a=true then .inr (Sum.inr (α:=Unit) (i:Int)) else .inl ())) (fun _=>Sum.inl (β:=Int) ())
  (fun i s hi=>by rw [hb i hi,Option.map_some]; split <;> rfl) (fun s=>he) ()
 have fold:∀ (l:List α) (i:Nat),walk (fun i a (_:Unit)=>some (if p a=true then .inr (Sum.inr (α:=Unit) (i:Int)) else .inl ())) (fun _=>Sum.inl (β:=Int) ()) l i ()=some (match l.findIdx? p with|some j=>.inr ((i+j:Nat):Int)|none=>.inl ()):=by
  intro l
  induction l with
  | nil=>intro i; rfl
  | cons a l ih =>
   intro i
   simp only [walk,List.findIdx?_cons]
   by_cases hp:p a=true
   ·simp [hp]
   ·simp only [hp,bT,cA]
    rw [ih (i+1)]
    cases l.findIdx? p with
    | none=>rfl
    | some j=>simp only [Option.map_some]; rw [show i+1+j=i+(j+1) by omega]
 have:=fold l 0
 simp only [dJ] at this
 rw [show (0:Int)=(fun (i:Nat) (_:Unit)=>(i:Int)) 0 () from rfl,key]
 exact this
def isN (nm:ByteArray) (q:aF):Bool:=q.aB.name.toList == nm.toList
theorem zci6 {nm:ByteArray} {q:aF}:isN nm q=true ↔ q.aB.name=nm:=by
 unfold isN; rw [cY]; exact zab7
def zam5 (t:List aF) (nm:ByteArray):Int:=match t.findIdx? (isN nm) with
 | some i=>i
 | none=>-1
theorem zaT6 (t:List aF) (nm:ByteArray) (hl:t.length≤1000000):zj6 t nm=some (zam5 t nm):=by
 unfold zj6
 rw [zav0 t aF.zero (isN nm) (fun i hi=>by
  unfold zae9 isN
  have h3:0≤(i:Int)∧(i:Int) < (t.length:Int):=by omega
  simp only [h3.1,h3.2,cQ,zk1,cB,bZ,Int.toNat_natCast,zd4 i (by omega)]
  split <;> rfl) (by unfold zae9; simp)]
 unfold zam5
 cases t.findIdx? (isN nm) <;> rfl
theorem zaO9 {t:List aF} {nm:ByteArray}:zam5 t nm=-1∨∃ i:Nat,zam5 t nm=i∧i < t.length∧(t.getD i aF.zero).aB.name=nm:=by
 unfold zam5
 cases h:t.findIdx? (isN nm) with
 | none=>exact .inl rfl
 | some i =>
  right
  obtain ⟨h1,h2,_⟩:=eA.1 h
  refine ⟨i,rfl,h1,?_⟩
  rw [bU,bX h1]
  exact zci6.1 h2
theorem zbn1 {t:List aF} (h:AscN t) {i j:Nat} (hi:i < t.length) (hj:j < t.length) (e:(t.getD i aF.zero).aB.name=(t.getD j aF.zero).aB.name):i=j:=by
 have hp:=dT.1 h
 have g:∀ k,(hk:k < t.length)→t.getD k aF.zero=t[k]:=fun k hk=>by rw [bU,bX hk]; rfl
 rw [g i hi,g j hj] at e
 rcases hI i j with h1|h1|h1
 ·exact absurd e (zaH1 (hp i j hi hj h1))
 ·exact h1
 ·exact absurd e.symm (zaH1 (hp j i hj hi h1))
theorem zbT4 {t:List aF} (h:AscN t) {i:Nat} (hi:i < t.length):zam5 t (t.getD i aF.zero).aB.name=i:=by
 rcases zaO9 (t:=t) (nm:=(t.getD i aF.zero).aB.name) with h1|⟨j,h1,h2,h3⟩
 ·unfold zam5 at h1
  cases hf:t.findIdx? (isN (t.getD i aF.zero).aB.name) with
  | some k=>rw [hf] at h1; simp only at h1; omega
  | none =>
   have:=eY.1 hf (t.getD i aF.zero) (zs3 hi)
   rw [dD] at this
   exact absurd (zci6.2 rfl) this
 ·rw [h1,zbn1 h h2 hi h3]
theorem zbf0 (x:aH) (s:List aH) (hs:s.Pairwise ltP) (hx:x ∉ s) (hl:s.length≤1000000):zc6 (zJ2) ((s.length:Int),s++[x])=some (zas2 x s):=by
 obtain ⟨r,h1,h2⟩:=zv4 (body:=zJ2) (fun g=>∃ pre post:List aH,g=((pre.length:Int),pre++x :: post)∧pre++post=s∧∀ y ∈ post,ltP x y) (fun g=>g.1.toNat) (fun r=>r=zas2 x s) (by
  rintro g ⟨pre,post,rfl,hp,hpost⟩
  have hpl:pre.length+post.length=s.length:=by rw [← hp,cI]
  unfold zJ2
  simp only [cI,List.length_cons]
  by_cases h0:pre=[]
  ·right
   subst h0
   refine ⟨_,by rw [zn3 (by simp),zn3 (by simp),bW (by simp)],?_⟩
   simp only [List.nil_append] at hp ⊢
   subst hp
   refine zax5 (dA.2 ⟨hpost,hs⟩) (zao5 hs) fun y=>?_
   rw [zao4,cE]
  ·obtain ⟨pre',y,rfl⟩:∃ p' y,pre=p'++[y]:=⟨pre.dropLast,pre.getLast h0,(List.dropLast_concat_getLast h0).symm⟩
   have hk:(pre'++[y]).length=pre'.length+1:=by simp
   rw [hk] at hpl ⊢
   have w:IntKind.i64.wrap (((pre'.length+1:Nat):Int) - 1)=(pre'.length:Int):=by rw [zo7 (by omega) (by omega)]; omega
   have e1:(pre'++[y]++x :: post).getD pre'.length aH.zero=y:=by simp [bU]
   have e2:(pre'++[y]++x :: post).getD (pre'.length+1) aH.zero=x:=by simp [bU]
   have g1:0≤(pre'.length:Int)∧(pre'.length:Int) < ((pre'.length+1+(post.length+1):Nat):Int):=by omega
   have g2:0≤((pre'.length+1:Nat):Int)∧((pre'.length+1:Nat):Int) < ((pre'.length+1+(post.length+1):Nat):Int):=by omega
   have hpos:decide (0 < ((pre'.length+1:Nat):Int))=true:=cR (by omega)
   simp only [w,Int.toNat_natCast,e1,e2,hpos,cF]
   rw [zn3 (fun _=>g1),zn3 (fun _=>g2)]
   have hlt:decide (0 < zw1 y x)=decide (ltP x y):=by rw [jA]; exact zbs7 y x
   rw [hlt]
   by_cases hxy:ltP x y
   ·left
    rw [bY (cR hxy),zn3 g1,zn3 g2,zn3 g1,zn3 g2]
    refine ⟨((pre'.length:Int),pre'++x :: (y :: post)),?_,⟨pre',y :: post,rfl,by rw [← hp]; simp,fun z hz=>?_⟩,by simp only [Int.toNat_natCast]; omega⟩
    ·congr 3
     rw [dI,gQ _ _ (cS _),gF,gQ _ _ (by omega),show pre'.length+1 - pre'.length=1 by omega]
     rfl
    ·rcases cE.1 hz with rfl|hz
     ·exact hxy
     ·exact hpost z hz
   ·right
    refine ⟨_,by rw [bW (by simpa using hxy)],?_⟩
    have hyx:ltP y x:=by
     rcases zao1 (p:=x) (q:=y) (fun e=>hx (by rw [← hp,e]; simp)) with h|h
     ·exact absurd h hxy
     ·exact h
    rw [← hp] at hs
    obtain ⟨a1,a2,a3⟩:=eH.1 hs
    obtain ⟨b1,b2,b3⟩:=eH.1 a1
    have hpre:∀ z ∈ pre'++[y],ltP z x:=fun z hz=>by
     rcases dF.1 hz with hz|hz
     ·exact zau8 (b3 z hz y (by simp)) hyx
     ·rw [eJ] at hz; rw [hz]; exact hyx
    rw [← hp]
    refine zax5 (eH.2 ⟨a1,dA.2 ⟨hpost,a2⟩,fun z hz u hu=>?_⟩) (zao5 hs) fun z=>?_
    ·rcases cE.1 hu with rfl|hu
     ·exact hpre z hz
     ·exact a3 z hz u hu
    ·rw [zao4]
     simp only [dF,cE,eJ]
     constructor
     ·rintro ((h|h)|h|h)
      ·exact .inr (.inl (.inl h))
      ·exact .inr (.inl (.inr h))
      ·exact .inl h
      ·exact .inr (.inr h)
     ·rintro (h|(h|h)|h)
      ·exact .inr (.inl h)
      ·exact .inl (.inl h)
      ·exact .inl (.inr h)
      ·exact .inr (.inr h)) ((s.length:Int),s++[x]) ⟨s,[],by simp,by simp,by simp⟩
 rw [h1,h2]
theorem zax7 (l:List aH) (hl:l.length≤1000000):zh6 l=some (zaO3 l):=by
 unfold zh6
 have key:=zz1 (body:=zz4 l) l aH.zero (fun i (s:List aH)=>((i:Int),s)) (fun _ p s=>some (.inl (zas2 p s))) (fun s=>s) (fun i s=>s.Pairwise ltP∧s.length≤i)
  (fun i s hi hs=>by
   have hlen:∀ p,(zas2 p s).length≤s.length+1:=fun p=>by
    have:=dZ (zbe8 (zao5 (p:=p) hs.1)) (l₂:=p :: s) fun z hz=>by
     rcases zao4.1 hz with rfl|h
     ·exact .head _
     ·exact .tail _ h
    simpa using this
   refine ⟨?_,fun s' h=>?_⟩
   ·unfold zz4
    have h3:0≤(i:Int)∧(i:Int) < (l.length:Int):=by omega
    simp only [h3.1,h3.2,cQ,zk1,cB,bZ,Int.toNat_natCast]
    rw [zbe9 _ _ (by omega),Option.bind_some,zd4 i (by omega)]
    by_cases hm:l.getD i aH.zero ∈ s
    ·rw [bY (cR hm),Option.map_some,zcb4 hs.1 hm]; rfl
    ·rw [bW (by rw [bV]; exact hm),zn3 (by omega),zbf0 _ _ hs.1 hm (by omega),Option.bind_some]
     unfold zaa7
     simp only [zd4 i (show i < 4611686018427387904 by omega),Option.map_some,wmap]
   ·simp only [cU,fD] at h; subst h
    exact ⟨zao5 hs.1,by have:=hlen (l.getD i aH.zero); omega⟩)
  (fun s hs=>by unfold zz4; simp) [] ⟨.nil,by simp⟩
 rw [show ((0,[]):Int×List aH)=(fun (i:Nat) (s:List aH)=>((i:Int),s)) 0 [] from rfl,key,zbu0 (fun s p=>zas2 p s)]
 rfl
theorem zaE9 {α β:Type} (l:List α) (z:α) (f:α→β) (s0:List β) {body:Int×List β→Option ((Int×List β)⊕List β)} (hl:l.length≤1000000) (h0:s0.length≤1000000)
  (hb:∀ (i:Nat) (s:List β),i < l.length→s.length≤3000000→body ((i:Int),s)=some (.inl (((i+1:Nat):Int),s++[f (l.getD i z)]))) (he:∀ s,body ((l.length:Int),s)=some (.inr s)):zc6 body (0,s0)=some (s0++l.map f):=by
 have key:=zz1 (body:=body) l z (fun i (s:List β)=>((i:Int),s)) (fun i a s=>some (.inl (zas0 s (some (f a))))) (fun s=>s) (fun i s=>s.length≤1000000+i)
  (fun i s hi hs=>⟨by rw [hb i s hi (by omega)]; rfl,fun s' h=>by simp only [cU,fD] at h; subst h; simp [zas0]; omega⟩) (fun s hs=>he s) s0 (by omega)
 rw [show ((0,s0):Int×List β)=(fun (i:Nat) (s:List β)=>((i:Int),s)) 0 s0 from rfl,key,zau7 (fun a=>some (f a))]
 simp
theorem zbf1 (l:List aT) (hl:l.length≤1000000):zg4 l=some (l.map (·.aN)):=by
 unfold zg4
 rw [zaE9 l aT.zero (·.aN) [] hl (by simp) (fun i s hi hs=>by
  unfold zV8
  have h3:0≤(i:Int)∧(i:Int) < (l.length:Int):=by omega
  have h1:s.length+1≤4294967296:=by omega
  simp only [h1,h3.1,h3.2,cQ,zk1,cB,bZ,Int.toNat_natCast,zd4 i (show i < 4611686018427387904 by omega)]) (fun s=>by unfold zV8; simp)]
 rfl
theorem zbu9 (q:aF) (h1:q.aL.length≤1000) (h2:q.aS.length≤1000):zi6 q=some ((ordQ q).map (·.aN)):=by
 unfold zi6
 rw [zaE9 q.aL aR.zero (·.aN) [] (by omega) (by simp) (fun i s hi hs=>by
  unfold zac2
  have h3:0≤(i:Int)∧(i:Int) < (q.aL.length:Int):=by omega
  have h1:s.length+1≤4294967296:=by omega
  simp only [h1,h3.1,h3.2,cQ,zk1,cB,bZ,Int.toNat_natCast,zd4 i (show i < 4611686018427387904 by omega)]) (fun s=>by unfold zac2; simp),Option.bind_some]
 unfold zac1
 rw [zaE9 q.aS aR.zero (·.aN) _ (by omega) (by simp; omega) (fun i s hi hs=>by
  unfold zac0
  have h3:0≤(i:Int)∧(i:Int) < (q.aS.length:Int):=by omega
  have h1:s.length+1≤4294967296:=by omega
  simp only [h1,h3.1,h3.2,cQ,zk1,cB,bZ,Int.toNat_natCast,zd4 i (show i < 4611686018427387904 by omega)]) (fun s=>by unfold zac0; simp),Option.bind_some]
 unfold zan0 ordQ
 rw [iI,List.nil_append]
theorem zbv0 (q:aF) (h0:q.bA.length≤1000) (h1:q.aL.length≤1000) (h2:q.aS.length≤1000):zq4 q=some (zao6 q):=by
 unfold zq4 zao6
 have hl:(ordQ q).length≤2000:=by unfold ordQ; rw [cI]; omega
 rw [zbf1 _ (by omega),Option.bind_some,zbu9 q h1 h2,Option.bind_some,zn3 (by simp; omega),zax7 _ (by simp; omega)]
 rfl
theorem zaP0 {t:List aF} (hl:t.length≤8) (h:∀ q ∈ t,zw6 q=true):zs9 t=some (zaO6 t):=by
 unfold zs9
 have key:=zz1 (body:=zT9 t) t aF.zero (fun i (s:List aH)=>((i:Int),s)) (fun _ q s=>some (.inl (s++zao6 q))) (fun s=>s) (fun i s=>s.length≤24 * i)
  (fun i s hi hs=>by
   have hq:=h _ (zs3 (z:=aF.zero) hi)
   have hql:=zal2 hq
   have hpl:=zbF1 hq
   refine ⟨?_,fun s' h=>?_⟩
   ·unfold zT9
    have h3:0≤(i:Int)∧(i:Int) < (t.length:Int):=by omega
    simp only [h3.1,h3.2,cQ,zk1,cB,bZ,Int.toNat_natCast]
    rw [zbv0 _ (by omega) (by omega) (by omega),Option.bind_some,zn3 (by omega),zd4 i (by omega)]
    rfl
   ·simp only [cU,fD] at h; subst h; rw [cI]; omega)
  (fun s hs=>by unfold zT9; simp) [] (by simp)
 rw [show ((0,[]):Int×List aH)=(fun (i:Nat) (s:List aH)=>((i:Int),s)) 0 [] from rfl,key,zbu7 zao6,List.nil_append,Option.bind_some]
 unfold zan5
 have:=zbK3 t h
 rw [zax7 _ (by omega)]; rfl
theorem zbv1 (t:List aF):zM8 t=some (zaO5 t):=by
 unfold zM8 zaO5
 by_cases h8:8 < t.length
 ·have:¬ t.length≤8:=by omega
  rw [bY (by simp; omega)]
  simp [this]
 ·have hl:t.length≤8:=by omega
  rw [bW (by simp; omega),zbu6 t hl (fun i hi=>by
   unfold zad2
   have h3:0≤(i:Int)∧(i:Int) < (t.length:Int):=by omega
   simp only [h3.1,h3.2,cQ,dU,zk1,cB,bZ,Int.toNat_natCast,zbt7,Option.bind_some,zd4 i (by omega)]
   by_cases e0:i=0
   ·subst e0
    rw [zn3 (by simp)]
    cases zw6 (t.getD 0 aF.zero) <;> simp
   ·rw [zad4 i (by omega) (by omega),zn3 (by intro _; omega)]
    simp only [Int.toNat_natCast,show (0:Int) < (i:Int) by omega,cB,cF,e0,hX]
    unfold ltN
    rcases hb (zw6 (t.getD i aF.zero)) with b1|b1 <;> rcases hb (Op.bytesLess (t.getD (i - 1) aF.zero).aB.name.toList (t.getD i aF.zero).aB.name.toList) with b2|b2 <;> simp [b1,b2,-List.getD_eq_getElem?_getD]) (by unfold zad2; simp)]
  simp only [hl,cB,cF]
  cases hw:ascW t none <;> rfl
theorem zbv2 (t:List aF):zR2 t=some (zaO7 t):=by
 unfold zR2 zaO7
 rw [zbv1,Option.bind_some]
 cases hp:zaO5 t with
 | false=>rfl
 | true =>
  obtain ⟨h1,h2,_⟩:=(zaH2 t).1 hp
  rw [bY rfl,zaP0 h1 h2,Option.bind_some,cF]
  congr 1
  rw [dP]; simp; omega
theorem zaT7 (t:List aF) (nm:ByteArray) (hl:t.length≤1000000):zj7 t nm=some (zam5 t nm):=by
 unfold zj7
 rw [zav0 t aF.zero (isN nm) (fun i hi=>by
  unfold zaf2 isN
  have h3:0≤(i:Int)∧(i:Int) < (t.length:Int):=by omega
  simp only [h3.1,h3.2,cQ,zk1,cB,bZ,Int.toNat_natCast,zd4 i (by omega)]
  split <;> rfl) (by unfold zaf2; simp)]
 unfold zam5
 cases t.findIdx? (isN nm) <;> rfl
theorem zcb8 (a b:List aF) (h:a.length=b.length) (hl:a.length≤1000000) (hs:∀ q ∈ a,q.bA.length≤1000∧q.aL.length≤1000∧q.aS.length≤1000) :
  zc6 (zP5 a b) 0=some (if a=b then .inl () else .inr false):=by
 have key:zc6 (zP5 a b) 0=some ((zG2 (fun i=>if decide (a.getD i aF.zero=b.getD i aF.zero)=true then none else some (Sum.inr false)) a.length 0).getD (Sum.inl ())):=by
  refine zF1 a.length _ (Sum.inl ()) (fun i hi=>?_) ?_
  ·have hq:=hs _ (zs3 (z:=aF.zero) hi)
   unfold zP5
   rw [bY (by simpa using hi),zn3 (by omega),zn3 (by omega),zo7 (by omega) (by omega)]
   simp only [Int.toNat_natCast]
   rw [zbA3 _ _ (by omega) (by omega) (by omega),Option.bind_some]
   by_cases hx:a.getD i aF.zero=b.getD i aF.zero
   ·simp only [hx,cB,cP,bT,cA,bZ]
   ·simp only [hx,cL,cX,bZ,bT,cA]
  ·unfold zP5
   rw [bW (by simp)]
 rw [key,zO8,← eO,zcC1 a b aF.zero h]
 by_cases e:a=b <;> simp [e]
theorem zbA7 (a b:List aF) (hl:a.length≤1000000) (hs:∀ q ∈ a,q.bA.length≤1000∧q.aL.length≤1000∧q.aS.length≤1000):zp3 a b=some (decide (a=b)):=by
 unfold zp3
 by_cases h:a.length=b.length
 ·rw [bW (by simp [h]),zcb8 a b h hl hs]
  by_cases e:a=b <;> simp [e,zas4]
 ·have:¬ a=b:=fun e=>h (by rw [e])
  rw [bY (by simp; omega),eD this]
mutual
def zr2:aG→Int
 | ⟨_,_,ks⟩=>1+zs4 ks
def zs4:List aG→Int
 | []=>0
 | k :: l=>max (zr2 k) (zs4 l)
end
mutual
def zo2:aG→Int
 | ⟨_,_,ks⟩=>1+zv2 ks
def zv2:List aG→Int
 | []=>0
 | k :: l=>zo2 k+zv2 l
end
def zas8 (a:aA):Bool:=zq0 a
mutual
def okE:aG→Bool
 | ⟨k,a,ks⟩=>if ks.length=0 then decide (k=0)&&zJ8 a.name&&zas8 a.aI else decide (1≤k)&&decide (k≤(ks.length:Int))&&decide (a=aD.zero)&&okL ks
def okL:List aG→Bool
 | []=>true
 | k :: l=>okE k&&okL l
end
mutual
def zI8:aG→List aD
 | ⟨_,a,ks⟩=>if ks.length=0 then [a] else zC8 ks
def zC8:List aG→List aD
 | []=>[]
 | k :: l=>zI8 k++zC8 l
end
theorem zbf2 (e:aG):zr2 e=1+zs4 e.aV:=by cases e; rw [zr2]
theorem zK6 (e:aG):zo2 e=1+zv2 e.aV:=by cases e; rw [zo2]
theorem zbK4 (e:aG):okE e=if e.aV.length=0 then decide (e.k=0)&&zJ8 e.aZ.name&&zas8 e.aZ.aI else decide (1≤e.k)&&decide (e.k≤(e.aV.length:Int))&&decide (e.aZ=aD.zero)&&okL e.aV:=by cases e; rw [okE]
theorem zab3 (e:aG):zI8 e=if e.aV.length=0 then [e.aZ] else zC8 e.aV:=by cases e; rw [zI8]
theorem zbv3:zs4 []=0:=by rw [zs4]
theorem zaA6 (k:aG) (l:List aG):zs4 (k :: l)=max (zr2 k) (zs4 l):=by rw [zs4]
theorem zbv4:zv2 []=0:=by rw [zv2]
theorem zV6 (k:aG) (l:List aG):zv2 (k :: l)=zo2 k+zv2 l:=by rw [zv2]
theorem zX2 {e k:aG} {n:Nat} (h:_root_.SizeOf.sizeOf e < n+1) (hk:k ∈ e.aV):_root_.SizeOf.sizeOf k < n:=by
 have h2:=List.sizeOf_lt_of_mem hk
 cases e
 simp at h h2
 omega
theorem zbn2:∀ (n:Nat) (e:aG),_root_.SizeOf.sizeOf e < n→1≤zr2 e∧1≤zo2 e∧zr2 e≤zo2 e∧((zI8 e).length:Int)≤zo2 e
 | 0,_,h=>by omega
 | n+1,e,h=>by
  have key:∀ l:List aG,(∀ k ∈ l,k ∈ e.aV)→0≤zs4 l∧0≤zv2 l∧zs4 l≤zv2 l∧(l.length:Int)≤zv2 l∧((zC8 l).length:Int)≤zv2 l:=by
   intro l
   induction l with
   | nil=>intro _; simp [zs4,zv2,zC8]
   | cons k l ih =>
    intro hl
    obtain ⟨h1,h2,h3,h4,h5⟩:=ih fun x hx=>hl x (.tail _ hx)
    obtain ⟨g1,g2,g3,g4⟩:=zbn2 n k (zX2 h (hl k (.head _)))
    simp only [zs4,zv2,zC8,cI,List.length_cons]
    refine ⟨?_,?_,?_,?_,?_⟩ <;> omega
  obtain ⟨h1,h2,h3,h4,h5⟩:=key e.aV fun _ h=>h
  rw [zbf2,zK6,zab3]
  refine ⟨by omega,by omega,by omega,?_⟩
  split
  ·simp; omega
  ·omega
theorem zag3 (e:aG):1≤zr2 e:=(zbn2 _ e (dY _)).1
theorem zL5 (e:aG):1≤zo2 e:=(zbn2 _ e (dY _)).2.1
theorem zaW9 (e:aG):((zI8 e).length:Int)≤zo2 e:=(zbn2 _ e (dY _)).2.2.2
theorem zax8:∀ l:List aG,0≤zs4 l
 | []=>by simp [zs4]
 | k :: l=>by have:=zax8 l; have:=zag3 k; rw [zaA6]; omega
theorem zB0:∀ l:List aG,(l.length:Int)≤zv2 l
 | []=>by simp [zv2]
 | k :: l=>by have:=zB0 l; have:=zL5 k; simp only [zv2,List.length_cons]; omega
theorem zbb2 {a:Int} (h1:1≤a) (h4:a≤4) (F:aG→Int→Option (Int×Int)):∀ (l:List aG),(∀ k ∈ l,∀ c,0≤c→c≤24→∃ c',F k c=some (if a+1+zr2 k≤5∧c+zo2 k≤24 then (zr2 k,c+zo2 k) else (0,c'))) →
  ∀ (i:Nat) (m c:Int),0≤m→0≤c→c≤24→∃ c',walk (fun _ k (s:Int×Int)=>(F k s.2).bind fun v=>if v.1=0 then some (.inr (Sum.inr (0,v.2))) else some (.inl (if s.1 < v.1 then v.1 else s.1,v.2))) (fun s=>Sum.inl (β:=Int×Int) s) l i (m,c) =
   some (if a+1+zs4 l≤5∧c+zv2 l≤24 then .inl (if m < zs4 l then zs4 l else m,c+zv2 l) else .inr (0,c'))
 | [],_,i,m,c,hm,hc,h24=>⟨0,by rw [zbv3,zbv4,bY (by omega)]; simp only [walk]; rw [bW (by omega),Int.add_zero]⟩
 | k :: l,hF,i,m,c,hm,hc,h24=>by
  obtain ⟨c1,e1⟩:=hF k (.head _) c hc h24
  have p1:=zag3 k
  have p2:=zL5 k
  have p3:=zax8 l
  have p4:=zB0 l
  by_cases hk:a+1+zr2 k≤5∧c+zo2 k≤24
  ·rw [bY hk] at e1
   obtain ⟨c2,e2⟩:=zbb2 h1 h4 F l (fun x hx=>hF x (.tail _ hx)) (i+1) (if m < zr2 k then zr2 k else m) (c+zo2 k) (by split <;> omega) (by omega) hk.2
   refine ⟨c2,?_⟩
   rw [zaA6,zV6]
   simp only [walk,e1,Option.bind_some,bW (show ¬ zr2 k=0 by omega),e2]
   by_cases hl:a+1+zs4 l≤5∧c+zo2 k+zv2 l≤24
   ·rw [bY hl,bY (show a+1+max (zr2 k) (zs4 l)≤5∧c+(zo2 k+zv2 l)≤24 by omega),show c+(zo2 k+zv2 l)=c+zo2 k+zv2 l by omega]
    refine cW some (cW Sum.inl (Prod.ext ?_ rfl))
    show (if (if m < zr2 k then zr2 k else m) < zs4 l then zs4 l else if m < zr2 k then zr2 k else m)=if m < max (zr2 k) (zs4 l) then max (zr2 k) (zs4 l) else m
    by_cases q1:m < zr2 k <;> by_cases q2:m < zs4 l <;> by_cases q3:zr2 k < zs4 l <;> simp only [q1,q2,q3,bZ,cA] <;> (repeat' split) <;> omega
   ·rw [bW hl,bW (by omega)]
  ·rw [bW hk] at e1
   refine ⟨c1,?_⟩
   rw [zaA6,zV6]
   simp only [walk,e1,Option.bind_some,bZ]
   rw [bW (by omega)]
theorem zbv5:∀ (n:Nat) (e:aG),_root_.SizeOf.sizeOf e < n→∀ a c,1≤a→a≤5→0≤c→c≤24→∃ c',zu4 n e a c=some (if a+zr2 e≤5∧c+zo2 e≤24 then (zr2 e,c+zo2 e) else (0,c'))
 | 0,_,h,_,_,_,_,_,_=>by omega
 | n+1,e,h,a,c,h1,h5,h0,h24=>by
  show ∃ c',zB6 (zu4 n) e a c=_
  unfold zB6
  have p1:=zag3 e
  have p2:=zL5 e
  have w1:IntKind.i64.wrap (c+1)=c+1:=zo7 (by omega) (by omega)
  have w2:IntKind.i64.wrap (a+1)=a+1:=zo7 (by omega) (by omega)
  rw [w1]
  by_cases c4:4 < a∨24 < c+1
  ·rw [bY (by simpa using c4)]
   exact ⟨c+1,by rw [bW (by omega)]⟩
  ·rw [bW (by simpa using c4)]
   have hF:∀ k ∈ e.aV,∀ c,0≤c→c≤24→∃ c',zu4 n k (a+1) c=some (if a+1+zr2 k≤5∧c+zo2 k≤24 then (zr2 k,c+zo2 k) else (0,c')) :=
    fun k hk c h0 h24=>zbv5 n k (zX2 h hk) (a+1) c (by omega) (by omega) h0 h24
   have key:=zz1 (body:=zE5 (zu4 n) e a) e.aV aG.zero (fun i (s:Int×Int)=>(s.1,(i:Int),s.2))
    (fun _ k (s:Int×Int)=>(zu4 n k (a+1) s.2).bind fun v=>if v.1=0 then some (.inr (Sum.inr (0,v.2))) else some (.inl (if s.1 < v.1 then v.1 else s.1,v.2))) (fun s=>Sum.inl (β:=Int×Int) s)
    (fun i s=>(i:Int) < s.2∧s.2≤24) (fun i s hi hs=>by
     have hk:=zs3 (z:=aG.zero) hi
     obtain ⟨c',e'⟩:=hF _ hk s.2 (by omega) hs.2
     have p2:=zL5 (e.aV.getD i aG.zero)
     have p3:=zag3 (e.aV.getD i aG.zero)
     refine ⟨?_,fun s' hs'=>?_⟩
     ·unfold zE5
      simp only
      rw [bY (by simpa using hi),gdp (by omega),w2]
      simp only [Int.toNat_natCast,e',Option.bind_some,bV,zd4 i (show i < 4611686018427387904 by omega)]
      by_cases cc:a+1+zr2 (e.aV.getD i aG.zero)≤5∧s.2+zo2 (e.aV.getD i aG.zero)≤24
      ·simp only [cc,cQ,bZ,bW (show ¬ zr2 (e.aV.getD i aG.zero)=0 by omega)]; rfl
      ·simp only [cc,cA,bZ]; rfl
     ·rw [e',Option.bind_some] at hs'
      by_cases cc:a+1+zr2 (e.aV.getD i aG.zero)≤5∧s.2+zo2 (e.aV.getD i aG.zero)≤24
      ·simp only [cc,cQ,bZ,bW (show ¬ zr2 (e.aV.getD i aG.zero)=0 by omega),cU,fD] at hs'
       subst hs'
       simp only
       omega
      ·simp only [cc,cA,bZ,cU,reduceCtorEq] at hs')
    (fun s hs=>by unfold zE5; simp) (0,c+1) (by simp only; omega)
   rw [show ((0,0,c+1):Int×Int×Int)=(fun (i:Nat) (s:Int×Int)=>(s.1,(i:Int),s.2)) 0 (0,c+1) from rfl,key]
   obtain ⟨c',e'⟩:=zbb2 h1 (by omega) (fun k c=>zu4 n k (a+1) c) e.aV hF 0 0 (c+1) (by decide) (by omega) (by omega)
   refine ⟨c',?_⟩
   rw [e',Option.bind_some,zbf2 e,zK6 e]
   have p3:=zax8 e.aV
   by_cases hh:a+1+zs4 e.aV≤5∧c+1+zv2 e.aV≤24
   ·rw [bY hh,bY (show a+(1+zs4 e.aV)≤5∧c+(1+zv2 e.aV)≤24 by omega)]
    have:(if 0 < zs4 e.aV then zs4 e.aV else 0)=zs4 e.aV:=by split <;> omega
    rw [this]
    show some (IntKind.i64.wrap (zs4 e.aV+1),c+1+zv2 e.aV)=_
    rw [zo7 (by omega) (by omega),show zs4 e.aV+1=1+zs4 e.aV by omega,show c+1+zv2 e.aV=c+(1+zv2 e.aV) by omega]
   ·rw [bW hh,bW (by omega)]
def fitE (e:aG):Bool:=decide (zr2 e≤4)&&decide (zo2 e≤24)
theorem zcD0 (e:aG):zi0 e=some (if fitE e=true then zr2 e else 0):=by
 unfold zi0 ze1
 obtain ⟨c',h⟩:=zbv5 _ e (dY _) 1 0 (by decide) (by decide) (by decide) (by decide)
 rw [h,Option.bind_some]
 unfold fitE
 by_cases c:1+zr2 e≤5∧0+zo2 e≤24
 ·rw [bY c,bY (by simp; omega)]
 ·rw [bW c,bW (by simp; omega)]
theorem zbF2 {a:Int} (h1:1≤a) (h4:a≤4) (F:aG→Option (Int×Int)):∀ (l:List aG),(∀ k ∈ l,F k=some (if a+1+zr2 k≤5∧zo2 k≤24 then (zo2 k,zr2 k) else (25,0))) →
  ∀ (i:Nat) (c m:Int),0≤m→1≤c→c≤24→walk (fun _ k (s:Int×Int)=>(F k).bind fun v=>if 24 < s.1+v.1 then some (.inr (Sum.inr (25,0))) else some (.inl (s.1+v.1,if s.2 < v.2 then v.2 else s.2))) (fun s=>Sum.inl (β:=Int×Int) s) l i (c,m) =
   some (if a+1+zs4 l≤5∧c+zv2 l≤24 then .inl (c+zv2 l,if m < zs4 l then zs4 l else m) else .inr (25,0))
 | [],_,i,c,m,hm,hc,h24=>by rw [zbv3,zbv4,bY (by omega)]; simp only [walk]; rw [bW (by omega),Int.add_zero]
 | k :: l,hF,i,c,m,hm,hc,h24=>by
  have e1:=hF k (.head _)
  have p1:=zag3 k
  have p2:=zL5 k
  have p3:=zax8 l
  have p4:=zB0 l
  rw [zaA6,zV6]
  by_cases hk:a+1+zr2 k≤5∧c+zo2 k≤24
  ·rw [bY (by omega)] at e1
   have e2:=zbF2 h1 h4 F l (fun x hx=>hF x (.tail _ hx)) (i+1) (c+zo2 k) (if m < zr2 k then zr2 k else m) (by split <;> omega) (by omega) hk.2
   simp only [walk,e1,Option.bind_some,bW (show ¬ 24 < c+zo2 k by omega),e2]
   by_cases hl:a+1+zs4 l≤5∧c+zo2 k+zv2 l≤24
   ·rw [bY hl,bY (show a+1+max (zr2 k) (zs4 l)≤5∧c+(zo2 k+zv2 l)≤24 by omega),show c+(zo2 k+zv2 l)=c+zo2 k+zv2 l by omega]
    refine cW some (cW Sum.inl (Prod.ext rfl ?_))
    show (if (if m < zr2 k then zr2 k else m) < zs4 l then zs4 l else if m < zr2 k then zr2 k else m)=if m < max (zr2 k) (zs4 l) then max (zr2 k) (zs4 l) else m
    by_cases q1:m < zr2 k <;> by_cases q2:m < zs4 l <;> by_cases q3:zr2 k < zs4 l <;> simp only [q1,q2,q3,bZ,cA] <;> (repeat' split) <;> omega
   ·rw [bW hl,bW (by omega)]
  ·rw [bW (by omega)]
   simp only [walk,e1,Option.bind_some]
   by_cases hh:a+1+zr2 k≤5∧zo2 k≤24
   ·rw [bY hh,bY (by simp only; omega)]
   ·rw [bW hh,bY (by simp only; omega)]
theorem zci7:∀ (n:Nat) (e:aG),_root_.SizeOf.sizeOf e < n→∀ a,1≤a→a≤5→zI6 n e a=some (if a+zr2 e≤5∧zo2 e≤24 then (zo2 e,zr2 e) else (25,0))
 | 0,_,h,_,_,_=>by omega
 | n+1,e,h,a,h1,h5=>by
  show zT0 (zI6 n) e a=_
  unfold zT0
  have p1:=zag3 e
  have p4:=zB0 e.aV
  have w2:IntKind.i64.wrap (a+1)=a+1:=zo7 (by omega) (by omega)
  by_cases c4:4 < a∨24 < (e.aV.length:Int)
  ·rw [bY (by simpa using c4),bW (by rw [zK6]; omega)]
  ·rw [bW (by simpa using c4)]
   have hF:∀ k ∈ e.aV,zI6 n k (a+1)=some (if a+1+zr2 k≤5∧zo2 k≤24 then (zo2 k,zr2 k) else (25,0)) :=
    fun k hk=>zci7 n k (zX2 h hk) (a+1) (by omega) (by omega)
   have key:=zz1 (body:=zP4 (zI6 n) e a) e.aV aG.zero (fun i (s:Int×Int)=>(s.1,s.2,(i:Int)))
    (fun _ k (s:Int×Int)=>(zI6 n k (a+1)).bind fun v=>if 24 < s.1+v.1 then some (.inr (Sum.inr (25,0))) else some (.inl (s.1+v.1,if s.2 < v.2 then v.2 else s.2))) (fun s=>Sum.inl (β:=Int×Int) s)
    (fun i s=>1≤s.1∧s.1≤24) (fun i s hi hs=>by
     have hk:=zs3 (z:=aG.zero) hi
     have e':=hF _ hk
     have p2:=zL5 (e.aV.getD i aG.zero)
     refine ⟨?_,fun s' hs'=>?_⟩
     ·unfold zP4
      simp only
      rw [bY (by simpa using hi),gdp (by omega),w2]
      simp only [Int.toNat_natCast,e',Option.bind_some,bV]
      unfold zaf3
      by_cases cc:a+1+zr2 (e.aV.getD i aG.zero)≤5∧zo2 (e.aV.getD i aG.zero)≤24
      ·rw [bY cc]
       simp only [zd4 i (show i < 4611686018427387904 by omega),zo7 (x:=s.1+zo2 (e.aV.getD i aG.zero)) (by omega) (by omega),bV]
       repeat' split
       all_goals first|rfl|omega
      ·rw [bW cc]
       simp only [zo7 (x:=s.1+25) (by omega) (by omega),bV,bY (show 24 < s.1+25 by omega),jR]
       rfl
     ·rw [e',Option.bind_some] at hs'
      by_cases cc:a+1+zr2 (e.aV.getD i aG.zero)≤5∧zo2 (e.aV.getD i aG.zero)≤24
      ·simp only [cc,cQ,bZ] at hs'
       split at hs'
       ·cases hs'
       ·simp only [cU,fD] at hs'
        subst hs'
        simp only
        omega
      ·simp only [cc,cA,bY (show 24 < s.1+25 by omega),cU,reduceCtorEq] at hs')
    (fun s hs=>by unfold zP4; simp) (1,0) (by simp only; omega)
   rw [show ((1,0,0):Int×Int×Int)=(fun (i:Nat) (s:Int×Int)=>(s.1,s.2,(i:Int))) 0 (1,0) from rfl,key]
   rw [zbF2 h1 (by omega) (fun k=>zI6 n k (a+1)) e.aV hF 0 1 0 (by omega) (by omega) (by omega),Option.bind_some,zbf2 e,zK6 e]
   have p3:=zax8 e.aV
   by_cases hh:a+1+zs4 e.aV≤5∧1+zv2 e.aV≤24
   ·rw [bY hh,bY (show a+(1+zs4 e.aV)≤5∧1+zv2 e.aV≤24 by omega)]
    have:(if 0 < zs4 e.aV then zs4 e.aV else 0)=zs4 e.aV:=by split <;> omega
    rw [this]
    show some (1+zv2 e.aV,IntKind.i64.wrap (zs4 e.aV+1))=_
    rw [zo7 (by omega) (by omega),show zs4 e.aV+1=1+zs4 e.aV by omega]
   ·rw [bW hh,bW (by omega)]
theorem zbT5 (e:aG):zm1 e=some (if fitE e=true then zo2 e else 0):=by
 unfold zm1 zl9
 have p:=zL5 e
 rw [zci7 _ e (dY _) 1 (by decide) (by decide),Option.bind_some]
 unfold fitE
 by_cases c:1+zr2 e≤5∧zo2 e≤24
 ·rw [bY c]
  simp only [show ¬ 24 < zo2 e by omega,show zr2 e≤4 by omega,c.2,cB,cL,gU,bT,bZ,cA]
 ·rw [bW c]
  have:(decide (zr2 e≤4)&&decide (zo2 e≤24))=false:=by rw [dD]; simp; omega
  rw [this]
  rfl
def zax9 (a:aD):List aD→Option Bool
 | []=>none
 | x :: l=>if a=x then some true else if (a.name.toList == x.name.toList)=true then some false else zax9 a l
def zbb3 (a:aD) (l:List aD):Int×List aD :=
 match zax9 a l with
 | some true=>(0,l)
 | some false=>(13,l)
 | none=>if l.length=8 then (4,l) else (0,l++[a])
def zbv6 (a:aD) (l:List aD):Option (List aD):=if (zbb3 a l).1=0 then some (zbb3 a l).2 else none
def zag4:List aD→List aD→Option (List aD)
 | [],l=>some l
 | a :: az,l=>(zbv6 a l).bind (zag4 az)
theorem zbv7:∀ (x y l:List aD),zag4 (x++y) l=(zag4 x l).bind (zag4 y)
 | [],y,l=>rfl
 | a :: x,y,l=>by
  simp only [List.cons_append,zag4]
  cases zbv6 a l with
  | none=>rfl
  | some l'=>exact zbv7 x y l'
theorem zcD1 {a:aD} {l:List aD} (h:l.length≤8):(zbb3 a l).2.length≤8:=by
 unfold zbb3
 split
 ·exact h
 ·exact h
 ·split
  ·exact h
  ·simp; omega
theorem zbf3:∀ {x l r:List aD},l.length≤8→zag4 x l=some r→r.length≤8
 | [],l,r,h,e=>by cases e; exact h
 | a :: x,l,r,h,e=>by
  simp only [zag4] at e
  unfold zbv6 at e
  split at e
  ·exact zbf3 (zcD1 h) e
  ·cases e
theorem zcN5 (a:aD) (l:List aD) (h:l.length≤8):zf3 a l=some (zbb3 a l):=by
 unfold zf3
 have hw:∀ (t:List aD) (i:Nat),walk (fun _ x (_:Unit)=>if a=x then some (.inr (Sum.inr ((0:Int),l))) else if (a.name.toList == x.name.toList)=true then some (.inr (Sum.inr ((13:Int),l))) else some (.inl ())) (fun _=>Sum.inl (β:=Int×List aD) ()) t i () =
   some (match zax9 a t with|some true=>.inr (0,l)|some false=>.inr (13,l)|none=>.inl ()):=by
  intro t
  induction t with
  | nil=>intro i; rfl
  | cons x t ih =>
   intro i
   simp only [walk,zax9]
   by_cases c:a=x
   ·simp only [c,bZ]
   ·by_cases c2:(a.name.toList == x.name.toList)=true
    ·simp only [c,c2,bZ,cA]
    ·simp only [c,c2,cA]; exact ih (i+1)
 have key:=zab1 (body:=zL8 a l) l aD.zero (fun i (_:Unit)=>(i:Int))
  (fun _ x (_:Unit)=>if a=x then some (.inr (Sum.inr ((0:Int),l))) else if (a.name.toList == x.name.toList)=true then some (.inr (Sum.inr ((13:Int),l))) else some (.inl ())) (fun _=>Sum.inl (β:=Int×List aD) ())
  (fun i s hi=>by
   unfold zL8
   rw [bY (by simpa using hi),gdp (by omega),zd4 i (by omega)]
   simp only [Int.toNat_natCast,bV]
   repeat' split
   all_goals rfl)
  (fun s=>by unfold zL8; simp) ()
 rw [show (0:Int)=(fun (i:Nat) (_:Unit)=>(i:Int)) 0 () from rfl,key,hw,Option.bind_some]
 unfold zbb3
 cases zax9 a l with
 | none =>
  simp only
  unfold zad9
  by_cases c:l.length=8
  ·rw [bY (by simp [c]),bY c]
  ·rw [bW (by simp; omega),bW c,gdp (by omega)]
 | some b=>cases b <;> rfl
def zX3 (e:aG) (l:List aD):Option (List aD):=if okE e=true then zag4 (zI8 e) l else none
def zbj3 (ks:List aG) (l:List aD):Option (List aD):=if okL ks=true then zag4 (zC8 ks) l else none
theorem zcb9 (k:aG) (ks:List aG) (l:List aD):zbj3 (k :: ks) l=(zX3 k l).bind (zbj3 ks):=by
 unfold zbj3 zX3
 simp only [okL,zC8,zbv7]
 cases okE k
 ·simp
 ·simp only [cF,bZ]
  cases zag4 (zI8 k) l with
  | none=>simp
  | some r=>simp only [Option.bind_some]
theorem zbK5 (a:aD):zg9 a=some (zJ8 a.name&&zas8 a.aI):=by
 unfold zg9
 rw [zas7,Option.bind_some]
 congr 2
theorem zbj4 (F:aG→List aD→Option (Bool×List aD)):∀ (ks:List aG),(∀ k ∈ ks,∀ l,l.length≤8→∃ r,F k l=some (match zX3 k l with|some l'=>(true,l')|none=>(false,r))) →
  ∀ (i:Nat) (l:List aD),l.length≤8→∃ r,walk (fun _ k (s:List aD)=>(F k s).bind fun v=>if (!v.1)=true then some (.inr (Sum.inr (false,v.2))) else some (.inl v.2)) (fun s=>Sum.inl (β:=Bool×List aD) s) ks i l =
   some (match zbj3 ks l with|some l'=>.inl l'|none=>.inr (false,r))
 | [],_,i,l,hl=>⟨[],by simp [walk,zbj3,okL,zC8,zag4]⟩
 | k :: ks,hF,i,l,hl=>by
  obtain ⟨r,e⟩:=hF k (.head _) l hl
  rw [zcb9]
  cases hp:zX3 k l with
  | none =>
   rw [hp] at e
   refine ⟨r,?_⟩
   simp only [walk,e,Option.bind_some,Option.bind_none,cX,bZ]
  | some l' =>
   rw [hp] at e
   have hl':l'.length≤8:=by
    unfold zX3 at hp
    split at hp
    ·exact zbf3 hl hp
    ·cases hp
   obtain ⟨r2,e2⟩:=zbj4 F ks (fun x hx=>hF x (.tail _ hx)) (i+1) l' hl'
   refine ⟨r2,?_⟩
   simp only [walk,e,Option.bind_some,cP,bT,cA,e2]
theorem zcD2 {e:aG} {l l':List aD} (hl:l.length≤8) (hp:zX3 e l=some l'):l'.length≤8:=by
 unfold zX3 at hp
 split at hp
 ·exact zbf3 hl hp
 ·cases hp
theorem zbT6:∀ (n:Nat) (e:aG),_root_.SizeOf.sizeOf e < n→zo2 e≤24→∀ l,l.length≤8→∃ r,zt8 n e l=some (match zX3 e l with|some l'=>(true,l')|none=>(false,r))
 | 0,_,h,_,_,_=>by omega
 | n+1,e,h,hn,l,hl=>by
  show ∃ r,zJ5 (zt8 n) e l=_
  unfold zJ5
  have p4:=zB0 e.aV
  have hne:=zK6 e
  by_cases c:e.aV.length=0
  ·rw [bY (by simpa using c),zbK5]
   have hp:zX3 e l=if e.k=0∧zJ8 e.aZ.name=true∧zas8 e.aZ.aI=true then zbv6 e.aZ l else none:=by
    unfold zX3
    rw [zbK4,zab3,bY c,bY c]
    simp only [zag4,bS,bV,fL]
    split
    ·cases zbv6 e.aZ l <;> rfl
    ·rfl
   rw [hp]
   by_cases c1:e.k=0
   ·simp only [c1,cB,bZ,Option.bind_some,cF,fC]
    by_cases c2:zJ8 e.aZ.name=true∧zas8 e.aZ.aI=true
    ·simp only [c2.1,c2.2,gU,cQ,bZ,zcN5 e.aZ l hl,Option.bind_some,cF]
     refine ⟨(zbb3 e.aZ l).2,?_⟩
     unfold zbv6
     by_cases c3:(zbb3 e.aZ l).1=0
     ·simp only [c3,cB,bZ]
     ·simp only [c3,cL,cA]
    ·have:(zJ8 e.aZ.name&&zas8 e.aZ.aI)=false:=by rw [dD]; simpa using c2
     simp only [this,c2,bT,cA,eT]
     exact ⟨l,rfl⟩
   ·simp only [c1,cL,bT,cA,Option.bind_some,eT,iA]
    exact ⟨l,rfl⟩
  ·rw [bW (by simpa using c)]
   have hp:zX3 e l=if 1≤e.k∧e.k≤(e.aV.length:Int)∧e.aZ=aD.zero then zbj3 e.aV l else none:=by
    unfold zX3 zbj3
    rw [zbK4,zab3,bW c,bW c]
    by_cases q1:1≤e.k <;> by_cases q2:e.k≤(e.aV.length:Int) <;> by_cases q3:e.aZ=aD.zero <;> simp [q1,q2,q3]
   rw [hp]
   by_cases c1:1≤e.k∧e.k≤(e.aV.length:Int)∧e.aZ=aD.zero
   ·rw [bY c1,bW (by simp [c1.2.2]; omega)]
    have hF:∀ k ∈ e.aV,∀ l,l.length≤8→∃ r,zt8 n k l=some (match zX3 k l with|some l'=>(true,l')|none=>(false,r)):=by
     intro k hk l hl
     refine zbT6 n k (zX2 h hk) ?_ l hl
     have:∀ (ks:List aG),k ∈ ks→zo2 k≤zv2 ks:=by
      intro ks
      induction ks with
      | nil=>intro h; cases h
      | cons x ks ih =>
       intro h
       rw [zV6]
       have p1:=zL5 x
       have p2:=zB0 ks
       rcases cE.1 h with rfl|h
       ·omega
       ·have:=ih h; omega
     have:=this e.aV hk
     omega
    have key:=zz1 (body:=zG4 (zt8 n) e) e.aV aG.zero (fun i (s:List aD)=>((i:Int),s))
     (fun _ k (s:List aD)=>(zt8 n k s).bind fun v=>if (!v.1)=true then some (.inr (Sum.inr (false,v.2))) else some (.inl v.2)) (fun s=>Sum.inl (β:=Bool×List aD) s)
     (fun i s=>s.length≤8) (fun i s hi hs=>by
      obtain ⟨r,er⟩:=hF _ (zs3 (z:=aG.zero) hi) s hs
      refine ⟨?_,fun s' hs'=>?_⟩
      ·unfold zG4
       simp only
       rw [bY (by simpa using hi),gdp (by omega)]
       simp only [Int.toNat_natCast,er,Option.bind_some,zd4 i (show i < 4611686018427387904 by omega)]
       cases zX3 (e.aV.getD i aG.zero) s <;> rfl
      ·rw [er,Option.bind_some] at hs'
       cases hq:zX3 (e.aV.getD i aG.zero) s with
       | none=>rw [hq] at hs'; simp at hs'
       | some l' =>
        rw [hq] at hs'
        simp only [cP,bT,cA,cU,fD] at hs'
        subst hs'
        exact zcD2 hs hq)
     (fun s hs=>by unfold zG4; simp) l hl
    rw [show ((0,l):Int×List aD)=(fun (i:Nat) (s:List aD)=>((i:Int),s)) 0 l from rfl,key]
    obtain ⟨r,er⟩:=zbj4 (zt8 n) e.aV hF 0 l hl
    rw [er,Option.bind_some]
    refine ⟨r,?_⟩
    cases zbj3 e.aV l <;> rfl
   ·rw [bW c1,bY (by
     simp only [dK,bV,cN,cG]
     by_cases q:e.aZ=aD.zero
     ·left; have:=mt (fun h:1≤e.k∧e.k≤(e.aV.length:Int)=>(⟨h.1,h.2,q⟩:1≤e.k∧e.k≤(e.aV.length:Int)∧e.aZ=aD.zero)) c1; omega
     ·exact .inr q)]
    exact ⟨l,rfl⟩
theorem zaP1 (e:aG):zi9 e=some (fitE e&&(zX3 e []).isSome):=by
 unfold zi9
 rw [zcD0,Option.bind_some]
 have p:=zag3 e
 cases hf:fitE e with
 | false=>rfl
 | true =>
  simp only [bZ,show ¬ zr2 e=0 by omega,cL,cX,cF]
  unfold zm0
  have hn:zo2 e≤24:=by unfold fitE at hf; simp at hf; omega
  obtain ⟨r,er⟩:=zbT6 _ e (dY _) hn [] (by simp)
  rw [er,Option.bind_some]
  cases zX3 e [] <;> rfl
def addA (a:aD) (l:List aD):List aD:=if a ∈ l then l else l++[a]
def addS:List aD→List aD→List aD
 | [],l=>l
 | a :: az,l=>addS az (addA a l)
theorem zbv8:∀ (x y l:List aD),addS (x++y) l=addS y (addS x l)
 | [],_,_=>rfl
 | a :: x,y,l=>zbv8 x y (addA a l)
theorem zcD3 (a:aD) (l:List aD):∃ t,addA a l=l++t:=by
 unfold addA
 split
 ·exact ⟨[],by simp⟩
 ·exact ⟨[a],rfl⟩
theorem zbb4:∀ (x l:List aD),∃ t,addS x l=l++t
 | [],l=>⟨[],by simp [addS]⟩
 | a :: x,l=>by
  obtain ⟨t1,h1⟩:=zcD3 a l
  obtain ⟨t2,h2⟩:=zbb4 x (addA a l)
  exact ⟨t1++t2,by rw [addS,h2,h1,dI]⟩
theorem zbn3:∀ (x l:List aD),(addS x l).length≤l.length+x.length
 | [],l=>by simp [addS]
 | a :: x,l=>by
  have h1:=zbn3 x (addA a l)
  have h2:(addA a l).length≤l.length+1:=by unfold addA; split <;> simp
  simp only [addS,List.length_cons]; omega
def dnN (l:List aD):Prop:=l.Pairwise fun x y=>(x.name.toList == y.name.toList)=false
theorem zbF3 {a:aD}:∀ {l:List aD},dnN l→a ∈ l→zax9 a l=some true
 | x :: l,h,hm=>by
  unfold dnN at h
  rw [dA] at h
  unfold zax9
  by_cases c:a=x
  ·rw [bY c]
  ·rw [bW c]
   rcases cE.1 hm with e|hm
   ·exact absurd e c
   ·have:=h.1 a hm
    rw [bW (by rw [cY]; intro e; rw [e] at this; simp at this)]
    exact zbF3 h.2 hm
theorem zaX0 {a:aD}:∀ {l:List aD},zax9 a l=none→∀ x ∈ l,(x.name.toList == a.name.toList)=false
 | y :: l,h,x,hx=>by
  unfold zax9 at h
  split at h
  ·cases h
  ·split at h
   ·cases h
   ·rename_i h1 h2
    rcases cE.1 hx with rfl|hx
    ·rw [dD]
     intro e
     rw [cY] at e
     exact h2 (by rw [cY]; exact e.symm)
    ·exact zaX0 h x hx
theorem zbj5 {a:aD}:∀ {l:List aD},dnN l→zax9 a l=some false→a ∉ l∧∃ x ∈ l,(x.name.toList == a.name.toList)=true
 | y :: l,hd,h=>by
  refine ⟨fun hm=>?_,?_⟩
  ·rw [zbF3 hd hm] at h; cases h
  ·unfold zax9 at h
   split at h
   ·cases h
   ·split at h
    ·rename_i h2
     exact ⟨y,.head _,by rw [cY] at h2 ⊢; exact h2.symm⟩
    ·unfold dnN at hd
     rw [dA] at hd
     obtain ⟨_,x,hx,e⟩:=zbj5 hd.2 h
     exact ⟨x,.tail _ hx,e⟩
theorem zcc0 {a:aD} {l:List aD} (h:zax9 a l=none):a ∉ l:=fun hm=>by
 have:=zaX0 h a hm
 simp at this
theorem zcN6 {l t:List aD} (h:dnN (l++t)):dnN l:=(eH.1 h).1
theorem zaX1:∀ (x l:List aD),l.length≤8→dnN l→((zag4 x l).isSome=true ↔ (addS x l).length≤8∧dnN (addS x l))
 | [],l,h8,hd=>by simp [zag4,addS,h8,hd]
 | a :: x,l,h8,hd=>by
  simp only [zag4,addS]
  unfold zbv6 zbb3
  cases hn:zax9 a l with
  | some b =>
   cases b with
   | true =>
    have hm:a ∈ l:=by
     refine Classical.byContradiction fun hm=>?_
     have:∀ l:List aD,a ∉ l→zax9 a l≠some true:=by
      intro l
      induction l with
      | nil=>intro _ h; cases h
      | cons y l ih =>
       intro hm h
       unfold zax9 at h
       rw [bW (fun (e:a=y)=>hm (by rw [e]; exact .head _))] at h
       split at h
       ·cases h
       ·exact ih (fun h=>hm (.tail _ h)) h
     exact this l hm hn
    simp only [bZ,Option.bind_some]
    unfold addA
    rw [bY hm]
    exact zaX1 x l h8 hd
   | false =>
    obtain ⟨hm,y,hy,e⟩:=zbj5 hd hn
    simp only [show ¬ (13:Int)=0 by decide,cA,Option.bind_none,Option.isSome_none,bT,false_iff]
    rintro ⟨_,h2⟩
    unfold addA at h2
    rw [bW hm] at h2
    obtain ⟨t,ht⟩:=zbb4 x (l++[a])
    rw [ht] at h2
    have h3:=(eH.1 (zcN6 h2)).2.2 y hy a (eJ.2 rfl)
    rw [e] at h3; cases h3
  | none =>
   have hm:=zcc0 hn
   have ha:addA a l=l++[a]:=by unfold addA; rw [bW hm]
   rw [ha]
   by_cases c:l.length=8
   ·simp only [c,bZ,show ¬ (4:Int)=0 by decide,cA,Option.bind_none,Option.isSome_none,bT,false_iff]
    rintro ⟨h1,_⟩
    obtain ⟨t,ht⟩:=zbb4 x (l++[a])
    rw [ht] at h1
    simp at h1
    omega
   ·simp only [c,cA,bZ,Option.bind_some]
    refine zaX1 x (l++[a]) (by simp; omega) ?_
    unfold dnN
    rw [eH]
    exact ⟨hd,List.pairwise_singleton _ _,fun y hy z hz=>by rw [eJ.1 hz]; exact zaX0 hn y hy⟩
def addO (e:aG) (l:List aD):Option (List aD):=if okE e=true then some (addS (zI8 e) l) else none
def addL (ks:List aG) (l:List aD):Option (List aD):=if okL ks=true then some (addS (zC8 ks) l) else none
theorem zcp2 (k:aG) (ks:List aG) (l:List aD):addL (k :: ks) l=(addO k l).bind (addL ks):=by
 unfold addL addO
 simp only [okL,zC8,zbv8]
 cases okE k <;> simp
def bad1 (r:Nat⊕(Bool×List aD)):Prop:=match r with|.inl _=>True|.inr v=>v.1=false
def got1 (F:Option (Nat⊕(Bool×List aD))) (o:Option (List aD)):Prop:=match o with|some l=>F=some (.inr (true,l))|none=>∃ r,F=some r∧bad1 r
theorem zcp3 (a:aD) (l:List aD) {X:Type} (x:X) {body:Int→Option (Int⊕(Unit⊕X))} (hl:l.length < 4611686018427387904)
  (hb:∀ i:Nat,i < l.length→body (i:Int)=if l.getD i aD.zero=a then some (.inr (.inr x)) else some (.inl ((i+1:Nat):Int))) (he:body (l.length:Int)=some (.inr (.inl ()))) :
  zc6 body 0=some (if a ∈ l then .inr x else .inl ()):=by
 have hw:∀ (t:List aD) (i:Nat),walk (fun _ y (_:Unit)=>if y=a then some (.inr (Sum.inr x)) else some (.inl ())) (fun _=>Sum.inl (β:=X) ()) t i ()=some (if a ∈ t then .inr x else .inl ()):=by
  intro t
  induction t with
  | nil=>intro i; simp [walk]
  | cons y t ih =>
   intro i
   simp only [walk]
   by_cases c:y=a
   ·rw [bY c]; simp [c]
   ·rw [bW c]
    simp only [ih (i+1),cE,show ¬ a=y from fun e=>c e.symm,hX]
 have key:=zab1 (body:=body) l aD.zero (fun i (_:Unit)=>(i:Int)) (fun _ y (_:Unit)=>if y=a then some (.inr (Sum.inr x)) else some (.inl ())) (fun _=>Sum.inl (β:=X) ())
  (fun i s hi=>by rw [hb i hi]; split <;> rfl) (fun s=>he) ()
 rw [show (0:Int)=(fun (i:Nat) (_:Unit)=>(i:Int)) 0 () from rfl,key,hw]
theorem zbv9 (F:aG→List aD→Option (Nat⊕(Bool×List aD))) {Y:Type} {B:Nat}:∀ (ks:List aG),(∀ k ∈ ks,∀ l,(l.length:Int)+zo2 k≤B→got1 (F k l) (addO k l)) →
  ∀ (i:Nat) (l:List aD),(l.length:Int)+zv2 ks≤B→(match addL ks l with
   | some l'=>walk (fun _ k (s:List aD)=>(F k s).bind fun v=>match v with|.inl v=>some (.inr (Sum.inr (Sum.inl s.length)))|.inr v=>if (!v.1)=true then some (.inr (Sum.inr (.inl s.length))) else some (.inl v.2)) (fun s=>Sum.inl (β:=Nat⊕Y) s) ks i l=some (.inl l')
   | none=>∃ r,walk (fun _ k (s:List aD)=>(F k s).bind fun v=>match v with|.inl v=>some (.inr (Sum.inr (Sum.inl s.length)))|.inr v=>if (!v.1)=true then some (.inr (Sum.inr (.inl s.length))) else some (.inl v.2)) (fun s=>Sum.inl (β:=Nat⊕Y) s) ks i l=some (.inr (.inl r)))
 | [],_,i,l,hl=>by simp [walk,addL,okL,zC8,addS]
 | k :: ks,hF,i,l,hl=>by
  rw [zV6] at hl
  have p1:=zB0 ks
  have e:=hF k (.head _) l (by omega)
  rw [zcp2]
  cases hp:addO k l with
  | none =>
   rw [hp] at e
   obtain ⟨r,er,hb⟩:=e
   simp only [Option.bind_none]
   refine ⟨l.length,?_⟩
   simp only [walk,er,Option.bind_some]
   cases r with
   | inl r=>rfl
   | inr v =>
    have hv:v.1=false:=hb
    simp only [hv,cX,bZ]
  | some l' =>
   rw [hp] at e
   have e':F k l=some (.inr (true,l')):=e
   have hl':(l'.length:Int)≤l.length+zo2 k:=by
    unfold addO at hp
    split at hp
    ·cases hp
     have h1:=zbn3 (zI8 k) l
     have h2:=zaW9 k
     omega
    ·cases hp
   have e2:=zbv9 (Y:=Y) F ks (fun x hx=>hF x (.tail _ hx)) (i+1) l' (by omega)
   simp only [walk,e',Option.bind_some,cP,bT,cA]
   exact e2
theorem zaR3 {e k:aG} (hk:k ∈ e.aV):zo2 k+1≤zo2 e:=by
 have:∀ (ks:List aG),k ∈ ks→zo2 k≤zv2 ks:=by
  intro ks
  induction ks with
  | nil=>intro h; cases h
  | cons x ks ih =>
   intro h
   rw [zV6]
   have p1:=zL5 x
   have p2:=zB0 ks
   rcases cE.1 h with rfl|h
   ·omega
   ·have:=ih h; omega
 have:=this e.aV hk
 rw [zK6 e]; omega
theorem zbw0 {e:aG} (c:e.aV.length=0):okE e=true ↔ e.k=0∧zJ8 e.aZ.name=true∧zas8 e.aZ.aI=true:=by
 rw [zbK4,bY c]; simp [fL]
theorem zbw1 {e:aG} (c:¬ e.aV.length=0):okE e=true ↔ (1≤e.k∧e.k≤(e.aV.length:Int)∧e.aZ=aD.zero)∧okL e.aV=true:=by
 rw [zbK4,bW c]; simp [fL]
theorem zbF4 {e:aG} (c:e.aV.length=0) (l:List aD):addO e l=if e.k=0∧zJ8 e.aZ.name=true∧zas8 e.aZ.aI=true then some (addA e.aZ l) else none:=by
 unfold addO
 rw [zab3,bY c]
 simp only [zbw0 c]
 rfl
theorem zbF5 {e:aG} (c:¬ e.aV.length=0) (l:List aD):addO e l=if 1≤e.k∧e.k≤(e.aV.length:Int)∧e.aZ=aD.zero then addL e.aV l else none:=by
 unfold addO addL
 rw [zab3,bW c]
 simp only [zbw1 c]
 by_cases c1:1≤e.k∧e.k≤(e.aV.length:Int)∧e.aZ=aD.zero <;> simp only [c1,fC,iA,bZ,cA,cQ]
theorem zcD4:∀ (n:Nat) (e:aG),_root_.SizeOf.sizeOf e < n→∀ l,(l.length:Int)+zo2 e≤100→got1 (zx4 n e l) (addO e l)
 | 0,_,h,_,_=>by omega
 | n+1,e,h,l,hl=>by
  show got1 (zw4 (zx4 n) e l) _
  unfold zw4
  have p4:=zB0 e.aV
  have hne:=zK6 e
  by_cases c:e.aV.length=0
  ·rw [bY (by simpa using c),zbF4 c]
   by_cases c1:e.k=0
   ·simp only [c1,cB,bZ,zap5,Option.bind_some,cP,dB,fC]
    by_cases c2:zJ8 e.aZ.name=true∧zas8 e.aZ.aI=true
    ·rw [bY c2,bW (by have:=c2.2; unfold zas8 at this; simp [c2.1,this])]
     rw [zcp3 e.aZ l (x:=Sum.inr (true,l)) (by omega) (fun i hi=>by
      unfold zY9
      rw [bY (by simpa using hi),gdp (by omega),zd4 i (by omega)]
      simp only [Int.toNat_natCast,bV]) (by unfold zY9; simp),Option.bind_some]
     unfold addA got1
     by_cases c3:e.aZ ∈ l
     ·simp only [c3,bZ]
     ·simp only [c3,cA]
      unfold zak6
      rw [gdp (by omega)]
    ·rw [bW c2,bY (by
      have:¬ (zJ8 e.aZ.name=true∧zq0 e.aZ.aI=true):=c2
      simp only [dK,cN]
      cases h1:zJ8 e.aZ.name <;> cases h2:zq0 e.aZ.aI <;> simp_all)]
     exact ⟨_,rfl,rfl⟩
   ·simp only [c1,cL,bT,cA,Option.bind_some,cX,fW,bZ,iA]
    exact ⟨_,rfl,rfl⟩
  ·rw [bW (by simpa using c),zbF5 c]
   by_cases c1:1≤e.k∧e.k≤(e.aV.length:Int)∧e.aZ=aD.zero
   ·rw [bY c1,bW (by simp [c1.2.2]; omega)]
    have hF:∀ k ∈ e.aV,∀ l,(l.length:Int)+zo2 k≤(100:Nat)→got1 (zx4 n k l) (addO k l):=fun k hk l hl=>zcD4 n k (zX2 h hk) l hl
    have key:=zz1 (body:=zQ5 (zx4 n) e) e.aV aG.zero (fun i (s:List aD)=>((i:Int),s))
     (fun _ k (s:List aD)=>(zx4 n k s).bind fun v=>match v with|.inl v=>some (.inr (Sum.inr (Sum.inl s.length)))|.inr v=>if (!v.1)=true then some (.inr (Sum.inr (.inl s.length))) else some (.inl v.2)) (fun s=>Sum.inl (β:=Nat⊕(Bool×List aD)) s)
     (fun i s=>True) (fun i s hi hs=>by
      refine ⟨?_,fun s' hs'=>trivial⟩
      unfold zQ5
      simp only
      rw [bY (by simpa using hi),gdp (by omega)]
      simp only [Int.toNat_natCast,zd4 i (show i < 4611686018427387904 by omega)]
      cases zx4 n (e.aV.getD i aG.zero) s with
      | none=>rfl
      | some v =>
       cases v with
       | inl v=>rfl
       | inr v =>
        simp only [Option.bind_some]
        split <;> rfl)
     (fun s hs=>by unfold zQ5; simp) l trivial
    rw [show ((0,l):Int×List aD)=(fun (i:Nat) (s:List aD)=>((i:Int),s)) 0 l from rfl,key]
    have er:=zbv9 (zx4 n) (Y:=Bool×List aD) (B:=100) e.aV hF 0 l (by omega)
    cases ha:addL e.aV l with
    | none =>
     rw [ha] at er
     obtain ⟨r,er⟩:=er
     rw [er,Option.bind_some]
     exact ⟨_,rfl,trivial⟩
    | some l' =>
     rw [ha] at er
     simp only at er
     rw [er,Option.bind_some]
     rfl
   ·rw [bW c1,bY (by
     simp only [dK,bV,cN,cG]
     by_cases q:e.aZ=aD.zero
     ·left; have:=mt (fun h:1≤e.k∧e.k≤(e.aV.length:Int)=>(⟨h.1,h.2,q⟩:1≤e.k∧e.k≤(e.aV.length:Int)∧e.aZ=aD.zero)) c1; omega
     ·exact .inr q)]
    exact ⟨_,rfl,rfl⟩
def bad0 (r:Nat⊕(List aD×Bool)):Prop:=match r with|.inl _=>True|.inr v=>v.2=false
theorem zci8 (e:aG) (hl:zo2 e≤50):match addO e [] with|some l=>zt6 e=some (.inr (l,true))|none=>∃ r,zt6 e=some r∧bad0 r:=by
 unfold zt6
 show match addO e [] with|some l=>zF7 _ e=some (.inr (l,true))|none=>∃ r,zF7 _ e=some r∧bad0 r
 unfold zF7
 have p4:=zB0 e.aV
 have hne:=zK6 e
 by_cases c:e.aV.length=0
 ·rw [bY (by simpa using c),zbF4 c]
  by_cases c1:e.k=0
  ·simp only [c1,cB,bZ,zap5,Option.bind_some,cP,dB,fC]
   by_cases c2:zJ8 e.aZ.name=true∧zas8 e.aZ.aI=true
   ·rw [bY c2,bW (by have:=c2.2; unfold zas8 at this; simp [c2.1,this])]
    rw [zq6]
    unfold zac8
    rfl
   ·rw [bW c2,bY (by
     have:¬ (zJ8 e.aZ.name=true∧zq0 e.aZ.aI=true):=c2
     simp only [dK,cN]
     cases h1:zJ8 e.aZ.name <;> cases h2:zq0 e.aZ.aI <;> simp_all)]
    exact ⟨_,rfl,rfl⟩
  ·simp only [c1,cL,bT,cA,Option.bind_some,cX,fW,bZ,iA]
   exact ⟨_,rfl,rfl⟩
 ·rw [bW (by simpa using c),zbF5 c]
  by_cases c1:1≤e.k∧e.k≤(e.aV.length:Int)∧e.aZ=aD.zero
  ·rw [bY c1,bW (by simp [c1.2.2]; omega)]
   have hF:∀ k ∈ e.aV,∀ l,(l.length:Int)+zo2 k≤(100:Nat)→got1 (zo9 k l) (addO k l):=fun k hk l hl=>zcD4 _ k (dY _) l hl
   have key:=zz1 (body:=zN5 e) e.aV aG.zero (fun i (s:List aD)=>((i:Int),s))
    (fun _ k (s:List aD)=>(zo9 k s).bind fun v=>match v with|.inl v=>some (.inr (Sum.inr (Sum.inl s.length)))|.inr v=>if (!v.1)=true then some (.inr (Sum.inr (.inl s.length))) else some (.inl v.2)) (fun s=>Sum.inl (β:=Nat⊕(List aD×Bool)) s)
    (fun i s=>True) (fun i s hi hs=>by
     refine ⟨?_,fun s' hs'=>trivial⟩
     unfold zN5
     simp only
     rw [bY (by simpa using hi),gdp (by omega)]
     simp only [Int.toNat_natCast,zd4 i (show i < 4611686018427387904 by omega)]
     cases zo9 (e.aV.getD i aG.zero) s with
     | none=>rfl
     | some v =>
      cases v with
      | inl v=>rfl
      | inr v =>
       simp only [Option.bind_some]
       split <;> rfl)
    (fun s hs=>by unfold zN5; simp) [] trivial
   rw [show ((0,[]):Int×List aD)=(fun (i:Nat) (s:List aD)=>((i:Int),s)) 0 [] from rfl,key]
   have er:=zbv9 (zo9) (Y:=List aD×Bool) (B:=100) e.aV hF 0 [] (by simp; omega)
   cases ha:addL e.aV [] with
   | none =>
    rw [ha] at er
    obtain ⟨r,er⟩:=er
    simp only
    rw [er,Option.bind_some]
    exact ⟨_,rfl,trivial⟩
   | some l' =>
    rw [ha] at er
    simp only at er ⊢
    rw [er,Option.bind_some]
    rfl
  ·rw [bW c1,bY (by
    simp only [dK,bV,cN,cG]
    by_cases q:e.aZ=aD.zero
    ·left; have:=mt (fun h:1≤e.k∧e.k≤(e.aV.length:Int)=>(⟨h.1,h.2,q⟩:1≤e.k∧e.k≤(e.aV.length:Int)∧e.aZ=aD.zero)) c1; omega
    ·exact .inr q)]
   exact ⟨_,rfl,rfl⟩
def vE (e:aG):Bool:=fitE e&&(zX3 e []).isSome
theorem zbF6 (e:aG):(zX3 e []).isSome=true ↔ ∃ l,addO e []=some l∧l.length≤8∧dnN l:=by
 unfold zX3 addO
 by_cases c:okE e=true
 ·rw [bY c,bY c,zaX1 _ [] (by simp) .nil]
  constructor
  ·exact fun h=>⟨_,rfl,h⟩
  ·rintro ⟨l,e,h⟩
   cases e; exact h
 ·rw [bW c,bW c]
  simp
theorem zbT7 (v:List aD×Bool) (i:Nat) (hi:i < v.1.length) (hl:v.1.length≤1000) :
  zc6 (zN6 v (i:Int)) 0=some (if (v.1.take i).any (fun x=>(v.1.getD i aD.zero).name.toList == x.name.toList)=true then .inr ([],false) else .inl ()):=by
 have hw:∀ (t:List aD) (j:Nat),walk (fun _ x (_:Unit)=>if ((v.1.getD i aD.zero).name.toList == x.name.toList)=true then some (.inr (Sum.inr (([]:List aD),false))) else some (.inl ())) (fun _=>Sum.inl (β:=List aD×Bool) ()) t j () =
   some (if t.any (fun x=>(v.1.getD i aD.zero).name.toList == x.name.toList)=true then .inr ([],false) else .inl ()):=by
  intro t
  induction t with
  | nil=>intro j; rfl
  | cons x t ih =>
   intro j
   simp only [walk,List.any_cons]
   by_cases c:((v.1.getD i aD.zero).name.toList == x.name.toList)=true
   ·simp only [c,bZ,fW]
   ·simp only [jS] at c
    simp only [c,dB,bT,cA]
    exact ih (j+1)
 have hlen:(v.1.take i).length=i:=by rw [dL]; omega
 have key:=zab1 (body:=zN6 v (i:Int)) (v.1.take i) aD.zero (fun j (_:Unit)=>(j:Int))
  (fun _ x (_:Unit)=>if ((v.1.getD i aD.zero).name.toList == x.name.toList)=true then some (.inr (Sum.inr (([]:List aD),false))) else some (.inl ())) (fun _=>Sum.inl (β:=List aD×Bool) ())
  (fun j s hj=>by
   rw [hlen] at hj
   unfold zN6
   rw [bY (by simp; omega),gdp (by omega),gdp (by omega),zd4 j (by omega),zco2 _ _ _ _ hj]
   simp only [Int.toNat_natCast]
   split <;> rfl)
  (fun s=>by unfold zN6; rw [hlen]; simp) ()
 rw [show (0:Int)=(fun (j:Nat) (_:Unit)=>(j:Int)) 0 () from rfl,key,hw]
theorem zaA7 (v:List aD×Bool) (hl:v.1.length≤1000):(dnN v.1→zc6 (zH6 v) 0=some (.inl ()))∧(¬ dnN v.1→zc6 (zH6 v) 0=some (.inr ([],false))):=by
 have key:=zab1 (body:=zH6 v) v.1 aD.zero (fun i (_:Unit)=>(i:Int))
  (fun i a (_:Unit)=>if (v.1.take i).any (fun x=>a.name.toList == x.name.toList)=true then some (.inr (Sum.inr (([]:List aD),false))) else some (.inl ())) (fun _=>Sum.inl (β:=List aD×Bool) ())
  (fun i s hi=>by
   unfold zH6
   rw [bY (by simpa using hi),zbT7 v i hi hl]
   split
   ·rfl
   ·show some _=_
    rw [zd4 i (by omega)]; rfl)
  (fun s=>by unfold zH6; simp) ()
 have hw:∀ (t prev:List aD),v.1=prev++t→dnN prev→(dnN v.1→walk (fun i a (_:Unit)=>if (v.1.take i).any (fun x=>a.name.toList == x.name.toList)=true then some (.inr (Sum.inr (([]:List aD),false))) else some (.inl ())) (fun _=>Sum.inl (β:=List aD×Bool) ()) t prev.length ()=some (.inl ())) ∧
   (¬ dnN v.1→walk (fun i a (_:Unit)=>if (v.1.take i).any (fun x=>a.name.toList == x.name.toList)=true then some (.inr (Sum.inr (([]:List aD),false))) else some (.inl ())) (fun _=>Sum.inl (β:=List aD×Bool) ()) t prev.length ()=some (.inr ([],false))):=by
  intro t
  induction t with
  | nil=>intro prev h hd; exact ⟨fun _=>rfl,fun hn=>absurd (by rw [h,eN]; exact hd) hn⟩
  | cons a t ih =>
   intro prev h hd
   have ht:v.1.take prev.length=prev:=by rw [h,List.take_left']; rfl
   simp only [walk,ht]
   by_cases c:prev.any (fun x=>a.name.toList == x.name.toList)=true
   ·have hn:¬ dnN v.1:=by
     intro hd2
     rw [h] at hd2
     obtain ⟨x,hx,e⟩:=jT.1 c
     have:=(eH.1 hd2).2.2 x hx a (.head _)
     rw [cY] at e
     rw [← e] at this
     simp at this
    exact ⟨fun h=>absurd h hn,fun _=>by rw [bY c]⟩
   ·rw [bW c]
    have hd3:dnN (prev++[a]):=by
     unfold dnN
     rw [eH]
     refine ⟨hd,List.pairwise_singleton _ _,fun x hx y hy=>?_⟩
     rw [eJ.1 hy,dD]
     intro e
     rw [cY] at e
     exact c (jT.2 ⟨x,hx,by rw [cY]; exact e.symm⟩)
    have:=ih (prev++[a]) (by rw [h]; simp) hd3
    rw [show (prev++[a]).length=prev.length+1 by simp] at this
    exact this
 have:=hw v.1 [] rfl .nil
 rw [show (0:Int)=(fun (i:Nat) (_:Unit)=>(i:Int)) 0 () from rfl,key]
 exact this
theorem zay0 (e:aG):zy7 e=some (vE e):=by
 unfold zy7 zl4
 rw [zbT5,Option.bind_some]
 have p:=zL5 e
 unfold vE
 cases hf:fitE e with
 | false=>rfl
 | true =>
  have hn:zo2 e≤24:=by unfold fitE at hf; simp at hf; omega
  simp only [bZ,show ¬ zo2 e=0 by omega,cL,bT,cA,cF]
  have ha:=zci8 e (by omega)
  have hp:=zbF6 e
  cases hadd:addO e [] with
  | none =>
   rw [hadd] at ha hp
   obtain ⟨r,er,hb⟩:=ha
   have hf:(zX3 e []).isSome=false:=by
    rw [dD]; intro h
    obtain ⟨l,e,_⟩:=hp.1 h
    cases e
   rw [er,hf,Option.bind_some]
   cases r with
   | inl r=>rfl
   | inr v =>
    have hv:v.2=false:=hb
    simp only [hv,cX,fW,bZ,Option.bind_some]
  | some l =>
   rw [hadd] at ha hp
   simp only at ha
   have hl:l.length≤24:=by
    unfold addO at hadd
    split at hadd
    ·cases hadd
     have h1:=zbn3 (zI8 e) []
     have h2:=zaW9 e
     simp at h1
     omega
    ·cases hadd
   rw [ha,Option.bind_some]
   by_cases c:l.length≤8
   ·simp only [cP,dB,show ¬ (8:Int) < (l.length:Int) by omega,cL,bT,cA]
    have ho:=zaA7 (l,true) (by simp only; omega)
    by_cases hd:dnN l
    ·rw [ho.1 hd,hp.2 ⟨l,rfl,c,hd⟩]
     rfl
    ·rw [ho.2 hd]
     have:(zX3 e []).isSome=false:=by
      rw [dD]; intro h
      obtain ⟨l',e',_,h3⟩:=hp.1 h
      cases e'
      exact hd h3
     rw [this]
     rfl
   ·simp only [cP,dB,show (8:Int) < (l.length:Int) by omega,cB,bZ,Option.bind_some]
    have:(zX3 e []).isSome=false:=by
     rw [dD]; intro h
     obtain ⟨l',e',h3,_⟩:=hp.1 h
     cases e'
     exact c h3
    rw [this]
theorem zbw2 (e:aG):zi9 e=some (vE e):=zaP1 e
def zcD5 (l:List bK) (i:Nat) (n:bK):Bool:=zc9 n.aN&&vE n.bL&&decide (0≤n.gen)&&decide (n.gen≤1073741824)&&(decide (i=0)||decide (cmpP (l.getD (i - 1) bK.zero).aN n.aN < 0))
def zbK6 (l:List bK):Bool:=(List.range l.length).all fun i=>zcD5 l i (l.getD i bK.zero)
def zcD6 (s:aK):List aH:=zaO3 (zaO6 s.aM++s.bF.map (·.aN))
def zbw3 (s:aK):Bool:=zaO5 s.aM&&decide (s.bF.length≤8)&&zbK6 s.bF&&decide ((zcD6 s).length≤8)
def Lens (t:List aF):Prop:=∀ q ∈ t,q.bA.length≤1000∧q.aL.length≤1000∧q.aS.length≤1000
theorem ValidT.lens {t:List aF} (h:ValidT t):Lens t:=fun q hq=>by
 have:=zal2 (h.each q hq)
 omega
def ascR:List aC→Option ByteArray→Bool
 | [],_=>true
 | r :: l,pv=>resV r&&((match pv with|none=>true|some n=>decide (ltN n r.name))&&ascR l (some r.name))
theorem zbT8:∀ (l:List aC) (pv:Option ByteArray),ascR l pv=true ↔ (∀ r ∈ l,resV r=true)∧l.Pairwise (fun a b=>ltN a.name b.name)∧∀ n,pv=some n→∀ r ∈ l,ltN n r.name
 | [],pv=>by
  simp only [ascR,iZ,iG,dU,iF,fC,true_iff]
  exact .nil
 | q :: t,pv=>by
  simp only [ascR,bS]
  rw [zbT8 t (some q.name)]
  constructor
  ·rintro ⟨h1,h2,h3,h4,h5⟩
   refine ⟨fun x hx=>?_,dA.2 ⟨fun x hx=>h5 _ rfl x hx,h4⟩,fun n hn x hx=>?_⟩
   ·rcases cE.1 hx with rfl|hx
    ·exact h1
    ·exact h3 x hx
   ·subst hn
    simp only [bV] at h2
    rcases cE.1 hx with rfl|hx
    ·exact h2
    ·exact zau9 h2 (h5 _ rfl x hx)
  ·rintro ⟨h1,h2,h3⟩
   have h2':=dA.1 h2
   refine ⟨h1 q (.head _),?_,fun x hx=>h1 x (.tail _ hx),h2'.2,fun n hn x hx=>by cases hn; exact h2'.1 x hx⟩
   cases pv with
   | none=>rfl
   | some n=>exact cR (h3 n rfl q (.head _))
def catV (l:List aC):Bool:=decide (l.length≤8)&&ascR l none
theorem zbw4 (l:List aC):catV l=true ↔ l.length≤8∧(∀ r ∈ l,resV r=true)∧l.Pairwise (fun a b=>ltN a.name b.name):=by
 unfold catV
 rw [bS,bV,zbT8]
 simp
theorem zcp4 (t0:List aC):∀ (t prev:List aC),t0=prev++t →
  walk (fun i q (_:Unit)=>some (if resV q=true∧(i=0∨ltN (t0.getD (i - 1) aC.zero).name q.name) then Sum.inl () else Sum.inr (Sum.inr (α:=Unit) false))) (fun _=>Sum.inl (β:=Bool) ()) t prev.length () =
   some (if ascR t (prev.getLast?.map (·.name))=true then .inl () else .inr false):=by
 intro t
 induction t with
 | nil=>intro prev _; simp [walk,ascR]
 | cons q t ih =>
  intro prev ht
  simp only [walk]
  have hq:(prev.length=0∨ltN (t0.getD (prev.length - 1) aC.zero).name q.name) ↔ (match prev.getLast?.map (·.name) with|none=>true|some n=>decide (ltN n q.name))=true:=by
   by_cases hp:prev=[]
   ·subst hp; simp
   ·have h1:=zbF0 prev (q :: t) aC.zero hp
    rw [ht,h1,jD hp]
    have:prev.length≠0:=fun e=>hp (cO e)
    simp [this]
  by_cases e:resV q=true∧(prev.length=0∨ltN (t0.getD (prev.length - 1) aC.zero).name q.name)
  ·rw [bY e]
   have:=ih (prev++[q]) (by rw [ht]; simp)
   rw [show (prev++[q]).length=prev.length+1 by simp] at this
   simp only
   have h2:ascR (q :: t) (prev.getLast?.map (·.name))=ascR t (some q.name):=by simp only [ascR,e.1,hq.1 e.2,cF]
   rw [this,h2]
   simp
  ·rw [bW e]
   rw [hq] at e
   have hf:ascR (q :: t) (prev.getLast?.map (·.name))=false:=by
    rw [dD]
    intro hh
    simp only [ascR,bS] at hh
    exact e ⟨hh.1,hh.2.1⟩
   rw [hf]; rfl
theorem zbT9 {body:Int→Option (Int⊕(Unit⊕Bool))} (t:List aC) (hl:t.length≤8)
  (hb:∀ i:Nat,i < t.length→body (i:Int)=some (if resV (t.getD i aC.zero)=true∧(i=0∨ltN (t.getD (i - 1) aC.zero).name (t.getD i aC.zero).name) then .inl ((i+1:Nat):Int) else .inr (.inr false)))
  (he:body (t.length:Int)=some (.inr (.inl ()))):zc6 body 0=some (if ascR t none=true then .inl () else .inr false):=by
 have key:=zab1 (body:=body) t aC.zero (fun i (_:Unit)=>(i:Int)) (fun i q _=>some (if resV q=true∧(i=0∨ltN (t.getD (i - 1) aC.zero).name q.name) then Sum.inl () else Sum.inr (Sum.inr (α:=Unit) false))) (fun _=>Sum.inl (β:=Bool) ())
  (fun i s hi=>by
   rw [hb i hi,Option.map_some]
   split <;> rfl) (fun s=>he) ()
 have:=zcp4 t t [] rfl
 rw [show (0:Int)=(fun (i:Nat) (_:Unit)=>(i:Int)) 0 () from rfl,key]
 exact this
theorem zbf4 (t:List aC):zn9 t=some (catV t):=by
 unfold zn9 catV
 by_cases h8:8 < t.length
 ·have:¬ t.length≤8:=by omega
  rw [bY (by simp; omega)]
  simp [this]
 ·have hl:t.length≤8:=by omega
  rw [bW (by simp; omega),zbT9 t hl (fun i hi=>by
   unfold zW5
   have h3:0≤(i:Int)∧(i:Int) < (t.length:Int):=by omega
   simp only [h3.1,h3.2,cQ,dU,zk1,cB,bZ,Int.toNat_natCast,zaN7,Option.bind_some,zd4 i (by omega)]
   by_cases e0:i=0
   ·subst e0
    rw [zn3 (by simp)]
    cases resV (t.getD 0 aC.zero) <;> simp
   ·rw [zad4 i (by omega) (by omega),zn3 (by intro _; omega)]
    simp only [Int.toNat_natCast,show (0:Int) < (i:Int) by omega,cB,cF,e0,hX]
    unfold ltN
    rcases hb (resV (t.getD i aC.zero)) with b1|b1 <;> rcases hb (Op.bytesLess (t.getD (i - 1) aC.zero).name.toList (t.getD i aC.zero).name.toList) with b2|b2 <;> simp [b1,b2,-List.getD_eq_getElem?_getD]) (by unfold zW5; simp)]
  simp only [hl,cB,cF]
  cases hw:ascR t none <;> rfl
theorem zbw5 (t:List aC):zt0 t=some (catV t):=by
 unfold zt0 catV
 by_cases h8:8 < t.length
 ·have:¬ t.length≤8:=by omega
  rw [bY (by simp; omega)]
  simp [this]
 ·have hl:t.length≤8:=by omega
  rw [bW (by simp; omega),zbT9 t hl (fun i hi=>by
   unfold zac9
   have h3:0≤(i:Int)∧(i:Int) < (t.length:Int):=by omega
   simp only [h3.1,h3.2,cQ,dU,zk1,cB,bZ,Int.toNat_natCast,zba8,Option.bind_some,zd4 i (by omega)]
   by_cases e0:i=0
   ·subst e0
    rw [zn3 (by simp)]
    cases resV (t.getD 0 aC.zero) <;> simp
   ·rw [zad4 i (by omega) (by omega),zn3 (by intro _; omega)]
    simp only [Int.toNat_natCast,show (0:Int) < (i:Int) by omega,cB,cF,e0,hX]
    unfold ltN
    rcases hb (resV (t.getD i aC.zero)) with b1|b1 <;> rcases hb (Op.bytesLess (t.getD (i - 1) aC.zero).name.toList (t.getD i aC.zero).name.toList) with b2|b2 <;> simp [b1,b2,-List.getD_eq_getElem?_getD]) (by unfold zac9; simp)]
  simp only [hl,cB,cF]
  cases hw:ascR t none <;> rfl
theorem zbw6 {q:aF} (hs:SoundP q) {w:aR} (hw:w ∈ ordQ q):zc9 w.aN=true∧zb8 q.aB w.aI=true∧(zF2 w.aN q.bA).length+1≤8:=by
 have hvh:=(zaW7 _ _).1 hs.hv
 rcases dF.1 hw with h|h
 ·obtain ⟨h1,h2,_⟩:=hs.cg w h
  refine ⟨(hvh.2.2.1.each _ (zcC7 h1)).1,h2,?_⟩
  have:=zco9 (zco8 hs.hv) h1
  omega
 ·have h1:=hs.wg w h
  have h2:=((zcb2 _).1 hs.wv).2.1 w h
  refine ⟨?_,h1.1,?_⟩
  ·rw [← zba5] at h2
   unfold zB3 at h2
   rw [zba3] at h2
   simp only [bS] at h2
   exact h2.1.1.1.1.1
  ·have:=hs.wl
   have h3:=zaW2 w.aN q.bA
   have:0 < q.aS.length:=List.length_pos_of_mem h
   omega
end Ab
end Go.Proofs.YtenebhlnfjcffaaGreatDoor
