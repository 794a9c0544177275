import Derived.Test.YtfkjffmjkbkmhaaGreatDoorDvA
import Derived.Test.YtfkjffmjkbkmhaaGreatDoorTabB
import Derived.Test.YtfkjffmjkbkmhaaGreatDoorHm29
namespace Go.Proofs.YtfkjffmjkbkmhaaGreatDoor
namespace Ab
set_option linter.unusedVariables false
set_option linter.unusedSimpArgs false
theorem zcq6 {α:Type} {P:List α→Prop} (h0:P []) (h1:∀ l a,P l→P (l++[a])) (l:List α):P l:=by
 rw [← List.reverse_reverse l]
 generalize l.reverse=m
 induction m with
 | nil=>exact h0
 | cons a m ih=>rw [List.reverse_cons]; exact h1 _ _ ih
theorem zcN5 (a b:List bG) (n:ByteArray):zh0 (a++b) n=b.foldl (sayE n) (zh0 a n):=by unfold zh0; rw [List.foldl_append]
theorem LedgerP.snoc {l:aW} (h:LedgerP l) {n:ByteArray} {a:aD} (hn:zC1 n=true) (hg:zu9 (zh0 l.aH n) a=true) {ns:List ByteArray} (nd:ns.Nodup) (h8:ns.length≤8)
  (hs:∀ e ∈ l.aH,e.name ∈ ns) (hm:n ∈ ns):LedgerP ⟨l.aH++[⟨n,zh0 l.aH n,a⟩],l.aY⟩:=by
 have hent:∀ i,i < (l.aH++[(⟨n,zh0 l.aH n,a⟩:bG)]).length→EntV (l.aH++[(⟨n,zh0 l.aH n,a⟩:bG)]) i:=fun i hi=>by
  rw [bZ,List.length_singleton] at hi
  by_cases c:i < l.aH.length
  ·have:=h.ent i c
   unfold EntV at this ⊢
   rw [zaz2 _ _ _ _ c,eJ (by omega)]
   exact this
  ·have e:i=l.aH.length:=by omega
   subst e
   unfold EntV
   rw [zaE5,eJ (cY _),dK]
   exact ⟨hn,rfl,hg⟩
 have hall:∀ e ∈ l.aH++[(⟨n,zh0 l.aH n,a⟩:bG)],e.name ∈ ns:=fun e he=>by
  rcases cI.1 he with he|he
  ·exact hs e he
  ·rw [dL.1 he]; exact hm
 refine ⟨?_,h.ls,hent,fun ms md hms=>?_,fun i hi=>?_⟩
 ·have:=zdc6 hent nd h8 hall
  show (l.aH++[_]).length≤72
  omega
 ·have:=dM md (l₂:=ns) fun m hm=>by
   obtain ⟨e,he,hen⟩:=hms m hm
   rw [← hen]; exact hall e he
  omega
 ·obtain ⟨h1,h2,h3,h4,h5⟩:=h.sv i hi
  refine ⟨h1,h2,h3,?_,h5⟩
  show (l.aY.getD i bN.zero).at_≤(((l.aH++[(⟨n,zh0 l.aH n,a⟩:bG)]).length:Nat):Int)
  rw [bZ]; omega
theorem LedgerP.mono {l:aW} (h:LedgerP l):∀ d i,i+d < l.aY.length→(l.aY.getD i bN.zero).at_≤(l.aY.getD (i+d) bN.zero).at_
 | 0,i,_=>iM _
 | d+1,i,hd=>by
  have h1:=h.mono d i (by omega)
  have h2:=(h.sv (i+(d+1)) hd).2.2.2.2.1 (by omega)
  rw [show i+(d+1) - 1=i+d by omega] at h2
  omega
theorem LedgerP.cut {l:aW} (h:LedgerP l) {k sv:Nat} (hk:k≤l.aH.length) (hsv:sv≤l.aY.length) (hat:∀ i,i < sv→(l.aY.getD i bN.zero).at_≤(k:Int)):LedgerP ⟨l.aH.take k,l.aY.take sv⟩:=by
 have e1:(l.aH.take k).length=k:=by rw [cO]; omega
 have e2:(l.aY.take sv).length=sv:=by rw [cO]; omega
 refine ⟨by have:=h.le; show (l.aH.take k).length≤72; omega,by have:=h.ls; show (l.aY.take sv).length≤4; omega,fun i hi=>?_,fun ms md hms=>h.n8 ms md fun n hn=>?_,fun i hi=>?_⟩
 ·have hi:i < k:=by rw [← e1]; exact hi
  have:=h.ent i (by omega)
  unfold EntV at this ⊢
  show zC1 ((l.aH.take k).getD i bG.zero).name=true∧((l.aH.take k).getD i bG.zero).before=zh0 ((l.aH.take k).take i) _∧_
  rw [zaz1 _ _ _ _ hi,gL,fD (by omega)]
  exact this
 ·obtain ⟨e,he,hen⟩:=hms n hn
  exact ⟨e,fJ he,hen⟩
 ·have hi:i < sv:=by rw [← e2]; exact hi
  obtain ⟨h1,h2,h3,h4,h5,h6⟩:=h.sv i (by omega)
  have hh:=hat i hi
  unfold zcq5
  show 1≤((l.aY.take sv).getD i bN.zero).label∧((l.aY.take sv).getD i bN.zero).label≤99∧0≤((l.aY.take sv).getD i bN.zero).at_∧((l.aY.take sv).getD i bN.zero).at_≤(((l.aH.take k).length:Nat):Int) ∧
   (0 < i→((l.aY.take sv).getD (i - 1) bN.zero).at_≤((l.aY.take sv).getD i bN.zero).at_)∧∀ j,j < i→((l.aY.take sv).getD j bN.zero).label≠((l.aY.take sv).getD i bN.zero).label
  rw [zaz1 _ _ _ _ hi,e1]
  refine ⟨h1,h2,h3,hh,fun h0=>?_,fun j hj=>?_⟩
  ·rw [zaz1 _ _ _ _ (by omega)]; exact h5 h0
  ·rw [zaz1 _ _ _ _ (by omega)]; exact h6 j hj
def isnt (n:ByteArray) (e:bG):Bool:=!decide (e.name=n)
def gone (n:ByteArray) (l:List bG):List bG:=l.filter (isnt n)
theorem zby7 (n:ByteArray) (l:List bG) (e:bG):gone n (l++[e])=gone n l++(if e.name=n then [] else [e]):=by
 unfold gone
 rw [iF]
 by_cases c:e.name=n
 ·rw [bW c,List.filter_cons_of_neg (by unfold isnt; simp [c])]; rfl
 ·rw [bT c,List.filter_cons_of_pos (by unfold isnt; simp [c])]; rfl
theorem zbY9 {n m:ByteArray} (h:m≠n) (l:List bG):zh0 (gone n l) m=zh0 l m:=by
 refine zcq6 (P:=fun l=>zh0 (gone n l) m=zh0 l m) rfl (fun l e ih=>?_) l
 rw [zby7,zU5]
 by_cases c:e.name=n
 ·rw [bW c,dV,ih,bT (by rw [c]; exact fun h2=>h h2.symm)]
 ·rw [bT c,zU5,ih]
theorem zcN6 (n:ByteArray) (l:List bG):zh0 (gone n l) n=aD.zero:=by
 refine zcq6 (P:=fun l=>zh0 (gone n l) n=aD.zero) rfl (fun l e ih=>?_) l
 rw [zby7]
 by_cases c:e.name=n
 ·rw [bW c,dV,ih]
 ·rw [bT c,zU5,bT c,ih]
theorem zbQ4 (l:List bG):(∀ i,i < l.length→EntV l i) ↔ ∀ a e b,l=a++e :: b→zC1 e.name=true∧e.before=zh0 a e.name∧zu9 e.before e.after=true:=by
 constructor
 ·intro h a e b hl
  have:=h a.length (by rw [hl]; simp)
  unfold EntV at this
  rw [hl,zaE5,eJ (cY _),dK] at this
  exact this
 ·intro h i hi
  exact h (l.take i) (l.getD i bG.zero) (l.drop (i+1)) (by rw [← zaH5 l i bG.zero hi,eC])
def cutS (n:ByteArray) (l:List bG) (i:Nat) (s:bN):bN:={ s with at_:=s.at_ - (((l.take i).take s.at_.toNat).filter fun e=>decide (e.name=n)).length }
def zbZ0 (n:ByteArray) (l:aW):aW:=⟨gone n l.aH,l.aY.map (cutS n l.aH l.aH.length)⟩
theorem zbp9 (n:ByteArray):∀ l:List bG,(gone n l).length+(l.filter fun e=>decide (e.name=n)).length=l.length
 | []=>rfl
 | e :: l=>by
  have:=zbp9 n l
  unfold gone isnt at *
  by_cases c:e.name=n
  ·simp only [iE,c,cC,cU,bU,cA,cB,List.length_cons]; omega
  ·simp only [iE,c,cK,dF,bU,cA,cB,List.length_cons]; omega
theorem zcF9 {n:ByteArray} {l:List bG} {s:bN} (h0:0≤s.at_) (h1:s.at_≤(l.length:Int)):(cutS n l l.length s).at_=((gone n (l.take s.at_.toNat)).length:Int):=by
 have:=zbp9 n (l.take s.at_.toNat)
 have e:(l.take s.at_.toNat).length=s.at_.toNat:=by rw [cO]; omega
 unfold cutS
 simp only [dK]
 omega
theorem zbZ1 (n:ByteArray) (l:List bG) {a b:Nat} (h:a≤b):(gone n (l.take a)).length≤(gone n (l.take b)).length:=by
 have:(l.take a).Sublist (l.take b):=by
  rw [show a=min a b by omega,← gL]; exact List.take_sublist _ _
 exact (this.filter _).length_le
theorem LedgerP.drop {l:aW} (h:LedgerP l) (n:ByteArray):LedgerP (zbZ0 n l):=by
 have hsub:(gone n l.aH).Sublist l.aH:=gQ
 have gm:∀ i,i < l.aY.length→(l.aY.map (cutS n l.aH l.aH.length)).getD i bN.zero=cutS n l.aH l.aH.length (l.aY.getD i bN.zero):=fun i hi=>by
  rw [bV,cL,bV,bY hi]; rfl
 refine ⟨dX hsub.length_le h.le,by show (l.aY.map _).length≤4; rw [dD]; exact h.ls,(zbQ4 _).2 fun a e b hl=>?_,fun ms md hms=>h.n8 ms md fun m hm=>?_,fun i hi=>?_⟩
 ·obtain ⟨x,y,h1,h2,h3⟩:=List.filter_eq_append_iff.1 (show l.aH.filter (isnt n)=a++e :: b from hl)
  obtain ⟨u,v,h4,h5,h6,h7⟩:=List.filter_eq_cons_iff.1 h3
  obtain ⟨k1,k2,k3⟩:=(zbQ4 _).1 h.ent (x++u) e v (by rw [h1,h4,dB])
  refine ⟨k1,?_,k3⟩
  have hen:e.name≠n:=by unfold isnt at h6; simpa using h6
  have hu:gone n u=[]:=List.filter_eq_nil_iff.2 h5
  rw [k2,← zbY9 hen,← h2]
  unfold gone at hu ⊢
  rw [iF,hu,dV]
 ·obtain ⟨e,he,hen⟩:=hms m hm
  exact ⟨e,hsub.subset he,hen⟩
 ·have hi:i < l.aY.length:=by have:i < (l.aY.map (cutS n l.aH l.aH.length)).length:=hi; rwa [dD] at this
  obtain ⟨h1,h2,h3,h4,h5,h6⟩:=h.sv i hi
  unfold zcq5
  show 1≤((l.aY.map (cutS n l.aH l.aH.length)).getD i bN.zero).label∧((l.aY.map (cutS n l.aH l.aH.length)).getD i bN.zero).label≤99∧0≤((l.aY.map (cutS n l.aH l.aH.length)).getD i bN.zero).at_∧((l.aY.map (cutS n l.aH l.aH.length)).getD i bN.zero).at_≤(((gone n l.aH).length:Nat):Int) ∧
   (0 < i→((l.aY.map (cutS n l.aH l.aH.length)).getD (i - 1) bN.zero).at_≤((l.aY.map (cutS n l.aH l.aH.length)).getD i bN.zero).at_)∧∀ j,j < i→((l.aY.map (cutS n l.aH l.aH.length)).getD j bN.zero).label≠((l.aY.map (cutS n l.aH l.aH.length)).getD i bN.zero).label
  rw [gm i hi,zcF9 h3 h4]
  refine ⟨h1,h2,by omega,?_,fun h0=>?_,fun j hj=>?_⟩
  ·have:=zbZ1 n l.aH (show (l.aY.getD i bN.zero).at_.toNat≤l.aH.length by omega)
   rw [dK] at this
   omega
  ·obtain ⟨_,_,g3,g4,_⟩:=h.sv (i - 1) (by omega)
   rw [gm (i - 1) (by omega),zcF9 g3 g4]
   have:=h5 h0
   have:=zbZ1 n l.aH (show (l.aY.getD (i - 1) bN.zero).at_.toNat≤(l.aY.getD i bN.zero).at_.toNat by omega)
   omega
  ·rw [gm j (by omega)]; exact h6 j hj
theorem zbE3 {l:aW} {e:bG} (h:LedgerP l) (h2:LedgerP ⟨l.aH++[e],l.aY⟩):zx5 l e=some (⟨l.aH++[e],l.aY⟩,0):=by
 have:=h.le; have:=h.ls
 unfold zx5
 rw [zaj0 h,Option.bind_some,bT (by decide),gdp (by omega),gdp (by omega),gdp (by omega),zaj0 h2,Option.bind_some,bT (by decide)]
theorem zcN7 {l:aW} (h:LedgerP l) (n:Int):∃ r,zG9 l n=some r∧(r.2=0→LedgerP r.1∧r.1.aH=l.aH):=by
 have hle:=h.le; have hls:=h.ls
 unfold zG9
 rw [zaj0 h,Option.bind_some,bT (by decide)]
 by_cases c1:((decide (n < 1))||(decide (99 < n)))=true
 ·rw [bW c1]; exact ⟨_,rfl,fun h=>nomatch h⟩
 rw [bT c1]
 obtain ⟨v,f1,f2⟩:=zby6 l.aY n (by omega)
 rw [f1,Option.bind_some]
 rcases f2 with ⟨rfl,hn⟩|⟨i,rfl,hi,_⟩
 ·rw [bT (by decide)]
  by_cases c2:(l.aY.length:Int)=4
  ·rw [bW (cF c2)]; exact ⟨_,rfl,fun h=>nomatch h⟩
  rw [bT (by simpa using c2),gdp (by omega),gdp (by omega),gdp (by omega)]
  simp only [dG,bX,jQ] at c1
  refine ⟨_,rfl,fun _=>⟨⟨hle,by show (l.aY++[_]).length≤4; rw [bZ,List.length_singleton]; omega,h.ent,h.n8,fun i hi=>?_⟩,rfl⟩⟩
  have hi:i < (l.aY++[(⟨n,(l.aH.length:Int)⟩:bN)]).length:=hi
  rw [bZ,List.length_singleton] at hi
  unfold zcq5
  simp only
  by_cases c:i < l.aY.length
  ·obtain ⟨h1,h2,h3,h4,h5,h6⟩:=h.sv i c
   rw [zaz2 _ _ _ _ c]
   refine ⟨h1,h2,h3,h4,fun h0=>?_,fun j hj=>?_⟩
   ·rw [zaz2 _ _ _ _ (by omega)]; exact h5 h0
   ·rw [zaz2 _ _ _ _ (by omega)]; exact h6 j hj
  ·have e:i=l.aY.length:=by omega
   subst e
   rw [zaE5]
   refine ⟨by simp only; omega,by simp only; omega,by simp only; omega,iM _,fun h0=>?_,fun j hj=>?_⟩
   ·rw [zaz2 _ _ _ _ (by omega)]; exact (h.sv _ (by omega)).2.2.2.1
   ·rw [zaz2 _ _ _ _ hj]; exact hn _ (zd1 hj)
 ·rw [bW (by simp)]; exact ⟨_,rfl,fun h=>nomatch h⟩
theorem zcN8 {l:List bG} {k:Nat} {n:ByteArray} (h:∀ e ∈ l.drop k,e.name≠n):zh0 l n=zh0 (l.take k) n:=by
 have key:∀ (b:List bG) (a:aD),(∀ e ∈ b,e.name≠n)→b.foldl (sayE n) a=a:=by
  intro b
  induction b with
  | nil=>intro a _; rfl
  | cons e b ih =>
   intro a hb
   rw [List.foldl_cons,show sayE n a e=a by unfold sayE; rw [bT (hb e (.head _))]]
   exact ih a fun x hx=>hb x (.tail _ hx)
 rw [← eC k l,zcN5,key _ _ h,eC]
theorem zcN9 {l:aW} (h:LedgerP l) (label:Int):∃ r,zA0 l label=some r∧(r.2.2=0→LedgerP r.1∧∃ k:Nat,k≤l.aH.length∧r.1.aH=l.aH.take k∧(∀ a ∈ r.2.1,(∃ e ∈ l.aH,e.name=a.name)∧a.aN=zh0 (l.aH.take k) a.name) ∧
  (∀ n,zh0 l.aH n≠zh0 (l.aH.take k) n→∃ a ∈ r.2.1,a.name=n))∧r.2.1.length≤72:=by
 have hle:=h.le; have hls:=h.ls
 have k1:∀ (at_:Nat) (sv:Nat),at_≤l.aH.length→sv≤l.aY.length→(∀ i,i < sv→(l.aY.getD i bN.zero).at_≤(at_:Int))→∃ r,zV5 l ((at_:Int),(sv:Int))=some r∧(r.2.2=0→LedgerP r.1∧∃ k:Nat,k≤l.aH.length∧r.1.aH=l.aH.take k∧(∀ a ∈ r.2.1,(∃ e ∈ l.aH,e.name=a.name)∧a.aN=zh0 (l.aH.take k) a.name) ∧
  (∀ n,zh0 l.aH n≠zh0 (l.aH.take k) n→∃ a ∈ r.2.1,a.name=n))∧r.2.1.length≤72:=by
  intro at_ sv ha hs hat
  unfold zV5
  simp only [Int.toNat_natCast]
  rw [gdp (by omega),gdp (by simp only [cO]; omega),gdp (by omega),gdp (by simp only [cO]; omega),gdp (by omega)]
  obtain ⟨ns,n1,n2,n3⟩:=zbf8 (l.aH.drop at_) (by simp only [eE]; omega)
  rw [n1,Option.bind_some]
  have hnl:ns.length≤72:=by rw [eE] at n2; omega
  have key:=zaE2 ns (⟨#[]⟩:ByteArray) (fun n=>(⟨n,zh0 (l.aH.take at_) n⟩:aM)) [] (body:=zae3 l ((at_:Int),(sv:Int)) ns) (by omega) (by simp) (fun i s hi hs'=>by
   unfold zae3
   have h3:0≤(i:Int)∧(i:Int) < (ns.length:Int):=by omega
   have h5:s.length+1≤4294967296:=by omega
   simp only [h3.1,h3.2,h5,cX,zk6,cC,cB,Int.toNat_natCast,zc6 i (show i < 4611686018427387904 by omega)]
   rw [zX9 _ _ (by simp only [cO]; omega)]
   rfl) (fun s=>by unfold zae3; simp)
  rw [key,Option.bind_some]
  refine ⟨_,rfl,fun _=>⟨h.cut ha hs hat,at_,ha,rfl,fun a hm=>?_,fun n hn=>?_⟩,?_⟩
  ·obtain ⟨n,hn,e⟩:=cH.1 (show a ∈ ns.map _ from hm)
   cases e
   obtain ⟨en,he,hen⟩:=(n3 n).1 hn
   exact ⟨⟨en,gM he,hen⟩,rfl⟩
  ·by_cases c:∃ e ∈ l.aH.drop at_,e.name=n
   ·exact ⟨_,cH.2 ⟨n,(n3 n).2 c,rfl⟩,rfl⟩
   ·exact absurd (zcN8 fun e he hen=>c ⟨e,he,hen⟩) hn
  ·show (ns.map _).length≤72
   rw [dD]; exact hnl
 unfold zA0
 rw [zaj0 h,Option.bind_some]
 simp only [cU,bU,cA]
 by_cases c:label=0
 ·rw [bT (by simp [c])]
  exact k1 0 0 (by omega) (by omega) fun i hi=>by omega
 ·rw [bW (by simp [c])]
  obtain ⟨v,f1,f2⟩:=zby6 l.aY label (by omega)
  rw [f1,Option.bind_some]
  rcases f2 with ⟨rfl,_⟩|⟨i,rfl,hi,_⟩
  ·exact ⟨_,rfl,(fun h=>nomatch h),by simp⟩
  ·have hs:=h.sv i hi
   rw [bT (by simp),gdp (by omega),Int.toNat_natCast,zc6 i (by omega),show (l.aY.getD i bN.zero).at_=(((l.aY.getD i bN.zero).at_.toNat:Nat):Int) by have:=hs.2.2.1; omega]
   refine k1 _ _ (by have:=hs.2.2.2.1; omega) (by omega) fun j hj=>?_
   have:=h.mono (i - j) j (by omega)
   rw [show j+(i - j)=i by omega] at this
   have:=hs.2.2.1
   omega
theorem zbU1 {l:aW} (h:LedgerP l) {n:ByteArray} (hn:∃ e ∈ l.aH,e.name=n):zy6 l n=some (zbZ0 n l,true):=by
 have hle:=h.le; have hls:=h.ls
 unfold zy6
 rw [zaj0 h,Option.bind_some]
 simp only [cU,bU,cA]
 rw [gdp (by omega)]
 have step:∀ (k:Nat),k < l.aH.length→(l.aH.getD k bG.zero).name=n→∀ s ∈ l.aY,cutS n l.aH (k+1) s=if (k:Int) < s.at_ then { cutS n l.aH k s with at_:=IntKind.i64.wrap ((cutS n l.aH k s).at_ - 1) } else cutS n l.aH k s:=fun k hk hkn s hs=>by
  have hat:=h.at_ s hs
  have hc:(((l.aH.take k).take s.at_.toNat).filter fun e=>decide (e.name=n)).length≤k:=dX (gD _ _) (by rw [cO,cO]; omega)
  unfold cutS
  by_cases c:(k:Int) < s.at_
  ·rw [bW c,zi0 (by simp only; omega) (by simp only; omega),dA (l:=l.aH.take k) (by rw [cO]; omega),dA (l:=l.aH.take (k+1)) (by rw [cO]; omega),zu1 bG.zero hk,iF,show [l.aH.getD k bG.zero].filter (fun e=>decide (e.name=n))=[l.aH.getD k bG.zero] from List.filter_cons_of_pos (cF hkn)]
   simp only [bZ,List.length_singleton]
   congr 1
   omega
  ·rw [bT c,gL,gL,fD (by omega),fD (by omega)]
 have inner:∀ (k:Nat),k < l.aH.length→(l.aH.getD k bG.zero).name=n→∀ es,zb9 (zae2 l ((k:Int),(⟨es,l.aY.map (cutS n l.aH k)⟩:aW))) (0,⟨es,l.aY.map (cutS n l.aH k)⟩)=some ⟨es,l.aY.map (cutS n l.aH (k+1))⟩:=fun k hk hkn es=>by
  obtain ⟨x,h1,h2⟩:=zq4 (body:=zae2 l ((k:Int),(⟨es,l.aY.map (cutS n l.aH k)⟩:aW))) (fun g=>∃ j:Nat,j≤l.aY.length∧g=((j:Int),(⟨es,(l.aY.take j).map (cutS n l.aH (k+1))++(l.aY.drop j).map (cutS n l.aH k)⟩:aW))) (fun g=>l.aY.length - g.1.toNat) (fun y=>y=⟨es,l.aY.map (cutS n l.aH (k+1))⟩)
   (fun g ⟨j,hj,hg⟩=>by
    subst hg
    unfold zae2
    have hlen:((l.aY.take j).map (cutS n l.aH (k+1))++(l.aY.drop j).map (cutS n l.aH k)).length=l.aY.length:=by rw [bZ,dD,dD,cO,eE]; omega
    by_cases c:j < l.aY.length
    ·left
     have h3:0≤(j:Int)∧(j:Int) < (l.aY.length:Int):=by omega
     have e1:((l.aY.take j).map (cutS n l.aH (k+1))).length=j:=by rw [dD,cO]; omega
     have e2:(l.aY.drop j).map (cutS n l.aH k)=cutS n l.aH k (l.aY.getD j bN.zero) :: (l.aY.drop (j+1)).map (cutS n l.aH k):=by rw [zaH5 l.aY j bN.zero c]; rfl
     have e3:=zaE5 ((l.aY.take j).map (cutS n l.aH (k+1))) ((l.aY.drop (j+1)).map (cutS n l.aH k)) (cutS n l.aH k (l.aY.getD j bN.zero)) bN.zero
     rw [e1,← e2] at e3
     have e4:=fun z=>zbi7 ((l.aY.take j).map (cutS n l.aH (k+1))) ((l.aY.drop (j+1)).map (cutS n l.aH k)) (cutS n l.aH k (l.aY.getD j bN.zero)) z
     rw [e1,← e2] at e4
     have e5:(l.aY.take (j+1)).map (cutS n l.aH (k+1))++(l.aY.drop (j+1)).map (cutS n l.aH k)=(l.aY.take j).map (cutS n l.aH (k+1))++cutS n l.aH (k+1) (l.aY.getD j bN.zero) :: (l.aY.drop (j+1)).map (cutS n l.aH k):=by
      rw [show l.aY.take (j+1)=l.aY.take j++[l.aY.getD j bN.zero] by rw [List.take_add_one,bY c,bV,bY c]; rfl,eU,dB]; rfl
     have hst:=step k hk hkn _ (zd1 (z:=bN.zero) c)
     simp only [hlen,h3.1,h3.2,cX,zk6,cC,cB,Int.toNat_natCast,zc6 j (show j < 4611686018427387904 by omega),e3,bX]
     by_cases c2:(k:Int) < (l.aY.getD j bN.zero).at_
     ·rw [bW c2] at hst ⊢
      exact ⟨_,rfl,⟨j+1,c,by rw [e4,e5,hst]⟩,by simp only [Int.toNat_natCast]; omega⟩
     ·rw [bT c2] at hst ⊢
      exact ⟨_,rfl,⟨j+1,c,by rw [e5,hst,e2]⟩,by simp only [Int.toNat_natCast]; omega⟩
    ·right
     have e:j=l.aY.length:=by omega
     subst e
     simp only [hlen,fC,cK,bU,cA]
     exact ⟨_,rfl,by rw [dK,kC,jO,dV]⟩) (0,⟨es,l.aY.map (cutS n l.aH k)⟩) ⟨0,by omega,rfl⟩
  rw [h1,h2]
 obtain ⟨x,h1,h2⟩:=zq4 (body:=zV4 l n) (fun g=>∃ k:Nat,k≤l.aH.length∧g=((k:Int),(⟨gone n (l.aH.take k),l.aY.map (cutS n l.aH k)⟩:aW))) (fun g=>l.aH.length - g.1.toNat) (fun y=>y=zbZ0 n l)
  (fun g ⟨k,hk,hg⟩=>by
   subst hg
   unfold zV4
   by_cases c:k < l.aH.length
   ·left
    have h3:0≤(k:Int)∧(k:Int) < (l.aH.length:Int):=by omega
    have h5:(gone n (l.aH.take k)).length+1≤4294967296:=by
     have:(gone n (l.aH.take k)).length≤(l.aH.take k).length:=gD _ _
     rw [cO] at this; omega
    have e1:gone n (l.aH.take (k+1))=gone n (l.aH.take k)++(if (l.aH.getD k bG.zero).name=n then [] else [l.aH.getD k bG.zero]):=by rw [zu1 bG.zero c,zby7]
    simp only [h3.1,h3.2,h5,cX,zk6,cC,cB,Int.toNat_natCast,zc6 k (show k < 4611686018427387904 by omega),zbf7]
    by_cases c2:(l.aH.getD k bG.zero).name=n
    ·rw [bT (by rw [cF c2]; decide),inner k c c2,Option.bind_some]
     rw [bW c2,dV] at e1
     unfold zaF0
     exact ⟨_,by rw [zc6 k (by omega)],⟨k+1,c,by rw [e1]⟩,by simp only [Int.toNat_natCast]; omega⟩
    ·rw [bW (by rw [eX c2]; decide)]
     rw [bT c2] at e1
     refine ⟨_,rfl,⟨k+1,c,?_⟩,by simp only [Int.toNat_natCast]; omega⟩
     rw [e1]
     congr 2
     refine jL fun s hs=>?_
     unfold cutS
     rw [gL,gL]
     by_cases c3:s.at_.toNat≤k
     ·rw [fD c3,fD (by omega)]
     ·rw [iB (by omega),iB (by omega),zu1 bG.zero c,iF,List.filter_cons_of_neg (by rw [eX c2]; decide),List.filter_nil,dV]
   ·right
    have e:k=l.aH.length:=by omega
    subst e
    simp only [fC,cK,bU,cA]
    exact ⟨_,rfl,by rw [dK]; rfl⟩) (0,⟨[],l.aY⟩) ⟨0,by omega,by
   have:l.aY.map (cutS n l.aH 0)=l.aY:=by
    refine (jL fun s hs=>?_).trans (List.map_id _)
    unfold cutS
    simp
   show ((0:Int),(⟨[],l.aY⟩:aW))=((0:Int),⟨[],l.aY.map (cutS n l.aH 0)⟩)
   rw [this]⟩
 rw [h1,Option.bind_some,h2]
 unfold zaE9
 have hlt:(gone n l.aH).length < l.aH.length:=by
  have:=zbp9 n l.aH
  obtain ⟨e,he,hen⟩:=hn
  have:0 < (l.aH.filter fun e=>decide (e.name=n)).length:=List.length_pos_of_mem (fL.2 ⟨he,cF hen⟩)
  omega
 rw [bT (by simp only [bX]; show ¬ (((gone n l.aH).length:Nat):Int)=_; omega)]
theorem zdc7:∀ {l:List aP} {k:aP},okL l=true→k ∈ l→okE k=true
 | x :: l,k,h,hk=>by
  simp only [okL,bS] at h
  rcases cE.1 hk with rfl|hk
  ·exact h.1
  ·exact zdc7 h.2 hk
theorem zdc8 {e:aP} (h:vE e=true):okE e=true∧fitE e=true:=by
 unfold vE at h
 rw [bS] at h
 refine ⟨?_,h.1⟩
 have h2:=h.2
 unfold zae5 at h2
 split at h2
 ·assumption
 ·cases h2
theorem zbQ5 {α β:Type} {o:Option α} {f:α→β} {b:β} (h:(o.bind fun v=>some (f v))=some b):∃ v,o=some v∧f v=b:=by
 cases o with
 | none=>cases h
 | some v=>exact ⟨v,rfl,dZ h⟩
theorem zaL5 (e:aP):∃ v,zj8 e=some v∧v.2=vE e:=by
 have h:=zaL3 e
 unfold zC5 at h
 exact zbQ5 h
theorem zbt7 {e:aP} {v:List aM×Bool} (h:zj8 e=some v):v.1.length≤8:=by
 unfold zj8 at h
 obtain ⟨v1,h1,h⟩:=zc7 h
 by_cases c:v1=0
 ·rw [bW (by simpa using c)] at h; cases h; simp
 rw [bT (by simpa using c)] at h
 obtain ⟨v2,h2,h⟩:=zc7 h
 cases v2 with
 | inl v2=>cases h; simp
 | inr v2 =>
  simp only at h
  by_cases c2:((!v2.2)||(decide (8 < (v2.1.length:Int))))=true
  ·rw [bW c2] at h; cases h; simp
  ·rw [bT c2] at h
   have hl:v2.1.length≤8:=by
    simp only [dG,bX,jQ] at c2; omega
   have ho:=zbf3 v2 (by omega)
   by_cases d:dnN v2.1
   ·rw [ho.1 d] at h
    have:zK8 v2 ()=some v:=h
    unfold zK8 at this; cases this; exact hl
   ·rw [ho.2 d] at h; cases h; simp
theorem zbQ6 {e:aP} {v:List aM×Bool} (h:zj8 e=some v):dnN v.1:=by
 unfold zj8 at h
 obtain ⟨v1,h1,h⟩:=zc7 h
 by_cases c:v1=0
 ·rw [bW (by simpa using c)] at h; cases h; exact .nil
 rw [bT (by simpa using c)] at h
 obtain ⟨v2,h2,h⟩:=zc7 h
 cases v2 with
 | inl v2=>cases h; exact .nil
 | inr v2 =>
  simp only at h
  by_cases c2:((!v2.2)||(decide (8 < (v2.1.length:Int))))=true
  ·rw [bW c2] at h; cases h; exact .nil
  ·rw [bT c2] at h
   have hl:v2.1.length≤8:=by
    simp only [dG,bX,jQ] at c2; omega
   have ho:=zbf3 v2 (by omega)
   by_cases d:dnN v2.1
   ·rw [ho.1 d] at h
    have:zK8 v2 ()=some v:=h
    unfold zK8 at this; cases this; exact d
   ·rw [ho.2 d] at h; cases h; exact .nil
theorem zcz2 {L:List aM} (h:dnN L) {a b:aM} (ha:a ∈ L) (hb:b ∈ L) (e:a.name=b.name):a=b:=by
 obtain ⟨i,hi,rfl⟩:=eR.1 ha
 obtain ⟨j,hj,rfl⟩:=eR.1 hb
 have k:=fun x y hx hy hxy=>dO.1 h x y hx hy hxy
 rcases iK i j with c|c|c
 ·have:=k i j hi hj c; rw [e] at this; simp at this
 ·subst c; rfl
 ·have:=k j i hj hi c; rw [e] at this; simp at this
theorem zcO0 (e:aP) (L:List aM) (S:List Bool) (hL:L.length≤1000):∃ b,((zb9 (zZ5 e L S) 0).bind (fun|.inl z=>zay4 z|.inr z=>some z))=some b∧((∀ i,S.getD i false=false)→b=false):=by
 obtain ⟨x,h1,h2⟩:=zq4 (body:=zZ5 e L S) (fun g=>∃ i:Nat,g=i∧i≤L.length) (fun g=>L.length - g.toNat) (fun x=>∀ b,x=.inr b→(∀ i,S.getD i false=false)→b=false)
  (fun g ⟨i,hi,hle⟩=>by
   subst hi
   unfold zZ5
   by_cases c:i < L.length
   ·have h3:0≤(i:Int)∧(i:Int) < (L.length:Int):=by omega
    simp only [h3.1,h3.2,cX,zk6,cC,cB,Int.toNat_natCast]
    by_cases d:L.getD i aM.zero=e.bF
    ·right
     rw [bW (by simpa using d),gdp (by intro h; simp only [bX] at h; simp; omega)]
     exact ⟨_,rfl,fun b hb hS=>by cases hb; rw [hS,iD]⟩
    ·left
     rw [bT (by simpa using d),zc6 i (by omega)]
     exact ⟨_,rfl,⟨i+1,rfl,c⟩,by simp only [Int.toNat_natCast]; omega⟩
   ·right
    simp only [show ¬ (i:Int) < (L.length:Int) by omega,cK,bU,cA]
    exact ⟨_,rfl,fun b hb=>by cases hb⟩) 0 ⟨0,rfl,by omega⟩
 rw [h1]
 cases x with
 | inl x=>exact ⟨false,rfl,fun _=>rfl⟩
 | inr b=>exact ⟨b,rfl,h2 b rfl⟩
theorem zcq7:∀ (n:Nat) (e:aP),_root_.SizeOf.sizeOf e < n→zp9 e≤24→∀ (L:List aM) (S:List Bool),L.length≤1000→∃ b,fr_ref08_holds n e L S=some b∧(okE e=true→(∀ i,S.getD i false=false)→b=false)
 | 0,_,h,_,_,_,_=>by omega
 | n+1,e,h,hn,L,S,hL=>by
  show ∃ b,zP1 (fr_ref08_holds n) e L S=some b∧_
  unfold zP1
  have hl:=zL7 e.bE
  have hne:=zab8 e
  by_cases c:e.k=0
  ·rw [bW (by simpa using c)]
   obtain ⟨b,h1,h2⟩:=zcO0 e L S hL
   exact ⟨b,h1,fun _=>h2⟩
  ·rw [bT (by simpa using c)]
   obtain ⟨x,h1,h2⟩:=zq4 (body:=zak4 (fr_ref08_holds n) e L S) (fun g=>∃ i:Nat,g.2=i∧i≤e.bE.length∧0≤g.1∧g.1≤i∧(okL e.bE=true→(∀ i,S.getD i false=false)→g.1=0)) (fun g=>e.bE.length - g.2.toNat)
    (fun x=>okL e.bE=true→(∀ i,S.getD i false=false)→x=0)
    (fun g ⟨i,hi,hle,h0,h4,hg⟩=>by
     obtain ⟨m,g2⟩:=g
     simp only at hi h0 h4 hg
     subst hi
     unfold zak4
     by_cases c:i < e.bE.length
     ·left
      have h3:0≤(i:Int)∧(i:Int) < (e.bE.length:Int):=by omega
      simp only [h3.1,h3.2,cX,zk6,cC,cB,Int.toNat_natCast]
      have hk:=zd1 (z:=aP.zero) c
      obtain ⟨b,e1,e2⟩:=zcq7 n _ (zaE3 h hk) (by have:=zby5 hk; omega) L S hL
      rw [e1,Option.bind_some,zc6 i (by omega)]
      cases b with
      | true =>
       rw [bW rfl,zi0 (by omega) (by omega)]
       exact ⟨_,rfl,⟨i+1,rfl,c,by simp only; omega,by simp only; omega,fun ho hS=>by have:=e2 (zdc7 ho hk) hS; cases this⟩,by simp only [Int.toNat_natCast]; omega⟩
      | false =>
       rw [bT (by decide)]
       exact ⟨_,rfl,⟨i+1,rfl,c,h0,by simp only; omega,hg⟩,by simp only [Int.toNat_natCast]; omega⟩
     ·right
      simp only [show ¬ (i:Int) < (e.bE.length:Int) by omega,cK,bU,cA]
      exact ⟨_,rfl,hg⟩) (0,0) ⟨0,rfl,by omega,by simp,by simp,fun _ _=>rfl⟩
   rw [h1,Option.bind_some]
   refine ⟨_,rfl,fun ho hS=>?_⟩
   by_cases ck:e.bE.length=0
   ·exact absurd ((zcp7 ck).1 ho).1 c
   ·have h5:=(zcp8 ck).1 ho
    rw [h2 h5.2 hS]
    exact eX (by omega)
theorem zdc9 {e:aP} (h:vE e=true):zp9 e≤24:=by
 have:=(zdc8 h).2
 unfold fitE at this
 simp only [bS,bX] at this
 omega
theorem zaL6 {e:aP} (h:vE e=true) {L:List aM} (hL:L.length≤1000) (S:List Bool):∃ b,f_ref08_holds e L S=some b∧((∀ i,S.getD i false=false)→b=false):=by
 unfold f_ref08_holds
 obtain ⟨b,h1,h2⟩:=zcq7 _ e (eW _) (zdc9 h) L S hL
 exact ⟨b,h1,h2 (zdc8 h).1⟩
theorem zbg0 {e:aP} (h:vE e=true) (S:List Bool):∃ b,zA7 e S=some b∧((∀ i,S.getD i false=false)→b=false):=by
 unfold zA7
 obtain ⟨v,h1,h2⟩:=zaL5 e
 rw [h1,Option.bind_some,h2,h]
 obtain ⟨b,h3,h4⟩:=zaL6 h (L:=v.1) (by have:=zbt7 h1; omega) S
 rw [bW rfl,h3]
 exact ⟨b,by simp,h4⟩
theorem zaj1 (e:aP):∃ l,zD5 e=some l∧l.length≤8∧zj8 e=some (l,vE e):=by
 unfold zD5
 obtain ⟨v,h1,h2⟩:=zaL5 e
 exact ⟨v.1,by rw [h1]; rfl,zbt7 h1,by rw [h1,← h2]⟩
def subB (x S:List Bool):Prop:=∀ k,x.getD k false=true→S.getD k false=true
theorem zbQ7 {x S:List Bool} (h:subB x S) (i:Nat) {v:Bool} (hv:v=true→S.getD i false=true):subB (x.set i v) S:=fun k hk=>by
 by_cases e:i=k
 ·subst e
  by_cases c:i < x.length
  ·rw [zm9 _ _ _ _ c] at hk; exact hv hk
  ·rw [List.set_eq_of_length_le (by omega)] at hk; exact h i hk
 ·rw [bV,List.getElem?_set_ne e,← bV] at hk; exact h k hk
theorem zcz3 (S:List Bool) (v:List aM×Bool) (hv:v.1.length≤8) (s0:List Bool) (h0:s0.length=v.1.length) (hs:subB s0 S):∃ x,zb9 (zab5 S v) (0,s0)=some x∧x.length=v.1.length∧subB x S :=
 zq4 (body:=zab5 S v) (fun g=>∃ i:Nat,g.1=i∧i≤v.1.length∧g.2.length=v.1.length∧subB g.2 S) (fun g=>v.1.length - g.1.toNat) (fun x=>x.length=v.1.length∧subB x S)
  (fun g ⟨i,hi,hle,hg,hb⟩=>by
   obtain ⟨g1,g2⟩:=g
   simp only at hi hg hb
   subst hi
   unfold zab5
   by_cases c:i < v.1.length
   ·left
    have h3:0≤(i:Int)∧(i:Int) < (v.1.length:Int):=by omega
    simp only [h3.2,cC,cB,Int.toNat_natCast]
    rw [gdp (by intro h; simp only [bX] at h; omega),gdp (by omega),zc6 i (by omega)]
    exact ⟨_,rfl,⟨i+1,rfl,c,by simp only [dQ]; exact hg,zbQ7 hb i fun h=>(Bool.and_eq_true_iff.1 h).2⟩,by simp only [Int.toNat_natCast]; omega⟩
   ·right
    simp only [show ¬ (i:Int) < (v.1.length:Int) by omega,cK,bU,cA]
    exact ⟨_,rfl,hg,hb⟩) (0,s0) ⟨0,rfl,by omega,h0,hs⟩
theorem zcz4 {e:aP} (h:vE e=true) (v:List aM×Bool) (hv:v.1.length≤8) (s0 S:List Bool) (h0:s0.length=v.1.length) (hs:subB s0 S):∃ x,zb9 (zab4 e v) (IntKind.i64.wrap ((v.1.length:Int) - 1),s0)=some x∧x.length=v.1.length∧subB x S :=
 zq4 (body:=zab4 e v) (fun g=>-1≤g.1∧g.1 < (v.1.length:Int)∧g.2.length=v.1.length∧subB g.2 S) (fun g=>(g.1+1).toNat) (fun x=>x.length=v.1.length∧subB x S)
  (fun g ⟨h1,h2,hg,hb⟩=>by
   obtain ⟨i,s⟩:=g
   simp only at h1 h2 hg hb
   unfold zab4
   by_cases c:0≤i
   ·left
    have e1:IntKind.i64.wrap (i - 1)=i - 1:=zi0 (by omega) (by omega)
    rw [bW (by simpa using c)]
    simp only [e1]
    rw [gdp (by omega)]
    by_cases d:s.getD i.toNat false=true
    ·rw [bW d,gdp (by omega)]
     obtain ⟨b,h3,_⟩:=zaL6 h (L:=v.1) (by omega) (s.set i.toNat false)
     rw [h3,Option.bind_some,gdp (by omega)]
     refine ⟨(i - 1,_),rfl,⟨by simp only; omega,by simp only; omega,by simp only [dQ]; exact hg,?_⟩,by simp only; omega⟩
     exact zbQ7 (zbQ7 hb i.toNat (v:=false) (fun h=>by cases h)) i.toNat fun _=>hb _ d
    ·rw [bT d]
     exact ⟨(i - 1,s),rfl,⟨by simp only; omega,by simp only; omega,hg,hb⟩,by simp only; omega⟩
   ·right
    simp only [c,cK,bU,cA]
    exact ⟨_,rfl,hg,hb⟩) _ ⟨by simp only; rw [zi0 (by omega) (by omega)]; omega,by simp only; rw [zi0 (by omega) (by omega)]; omega,h0,hs⟩
theorem zbZ2 (n:Nat) (S:List Bool):subB (List.replicate n false) S:=fun k hk=>by
 rw [bV,iV] at hk
 split at hk <;> cases hk
theorem zbQ8 {e:aP} (h:vE e=true) (S:List Bool) {l:List aM} (ha:zj8 e=some (l,vE e)):∃ x,zM5 e S=some x∧x.length=l.length∧subB x S:=by
 unfold zM5
 have hl:=zbt7 ha
 simp only at hl
 rw [ha,Option.bind_some,gdp (by simp only; omega),h,bW rfl]
 obtain ⟨b,h3,_⟩:=zaL6 h (L:=l) (by omega) S
 simp only [h3,Option.bind_some]
 cases b with
 | false=>exact ⟨_,rfl,by simp,zbZ2 _ _⟩
 | true =>
  simp only [cU,fA,bU,cA]
  obtain ⟨x,h4,h5,h5'⟩:=zcz3 S (l,true) (by simp only; omega) (List.replicate ((l.length:Int).toNat) false) (by simp) (zbZ2 _ _)
  rw [h4,Option.bind_some]
  unfold zal3
  obtain ⟨y,h6,h7⟩:=zcz4 h (l,true) (by simp only; omega) x S h5 h5'
  rw [h6]
  exact ⟨y,rfl,h7⟩
theorem zaL7 (l:List aG) (p:aK) (hl:l.length≤1000):∃ v,zi2 l p=some v∧(v=-1∧(∀ x ∈ l,x.aJ≠p)∨∃ i:Nat,v=i∧i < l.length∧(l.getD i aG.zero).aJ=p):=by
  unfold zi2
  rw [zbi6 l aG.zero (fun a=>decide (a.aJ=p)) (fun i hi=>by
    unfold zak3
    have h3:0≤(i:Int)∧(i:Int) < (l.length:Int):=by omega
    simp only [h3.1,h3.2,cX,zk6,cC,cB,Int.toNat_natCast,zc6 i (show i < 4611686018427387904 by omega)]
    split <;> rfl) (by unfold zak3; simp)]
  cases h:l.findIdx? fun a=>decide (a.aJ=p) with
  | none =>
    refine ⟨-1,rfl,.inl ⟨rfl,fun x hx e=>?_⟩⟩
    have:=gZ.1 h x hx
    simp [e] at this
  | some i =>
    obtain ⟨h1,h2,_⟩:=gY.1 h
    refine ⟨i,rfl,.inr ⟨i,rfl,h1,?_⟩⟩
    rw [bV,bY h1]
    exact fW h2
theorem zaU3 (t:List aA) (hl:t.length≤1000):zg2 t=some (t.map (·.aB)):=by
  unfold zg2
  rw [zaE2 t aA.zero (·.aB) [] (by omega) (by simp) (fun i s hi hs=>by
    unfold zac5
    have h3:0≤(i:Int)∧(i:Int) < (t.length:Int):=by omega
    simp only [h3.1,h3.2,cX,zk6,cC,cB,Int.toNat_natCast,zc6 i (show i < 4611686018427387904 by omega)]
    rw [gdp (by omega)]) (fun s=>by unfold zac5; simp)]
  rfl
theorem zby8 {α β:Type} (l:List α) (z:α) (f:α→Option β) {body:Int×List β→Option ((Int×List β)⊕List β)} (hl:l.length≤1000000)
    (hb:∀ (i:Nat) (s:List β),i < l.length→s.length≤1000000→body ((i:Int),s)=some (.inl (((i+1:Nat):Int),zaD7 s (f (l.getD i z))))) (he:∀ s,body ((l.length:Int),s)=some (.inr s)):zb9 body (0,[])=some (l.filterMap f):=by
  have key:=zA2 (body:=body) l z (fun i (s:List β)=>((i:Int),s)) (fun i a s=>some (.inl (zaD7 s (f a)))) (fun s=>s) (fun i s=>s.length≤i)
    (fun i s hi hs=>⟨by rw [hb i s hi (by omega)]; rfl,fun s' h=>by simp only [dC,fF] at h; subst h; have:=zcL3 s (f (l.getD i z)); omega⟩) (fun s hs=>he s) [] (by simp)
  rw [show ((0,[]):Int×List β)=(fun (i:Nat) (s:List β)=>((i:Int),s)) 0 [] from rfl,key,zaH6 f]
  simp
def zaL8 (p:aK) (q:aA):Option aM:=if getH q.aQ p=aD.zero then none else some ⟨q.aB.name,getH q.aQ p⟩
def zaP8 (p:aK) (q:aA):Option aM:=if (zp7 q p).2=true then some ⟨q.aB.name,(zp7 q p).1⟩ else none
def sayF (l:List bG) (n:ByteArray):Option aM:=if zh0 l n=aD.zero then none else some ⟨n,zh0 l n⟩
theorem zaO3 {t:List aA} (h:Lens t) {i:Nat} (hi:i < t.length):(t.getD i aA.zero).aQ.length≤1000∧(t.getD i aA.zero).aO.length≤1000∧(t.getD i aA.zero).aS.length≤1000:=h _ (zd1 hi)
theorem zbt8 (t:List aA) (p:aK) (hl:t.length≤1000) (hs:Lens t):zl5 t p=some (t.filterMap (zaL8 p)):=by
  unfold zl5
  rw [zby8 t aA.zero (zaL8 p) (by omega) (fun i s hi hs'=>by
    unfold zY5
    have h3:0≤(i:Int)∧(i:Int) < (t.length:Int):=by omega
    have h4:=zaO3 hs hi
    have h5:s.length+1≤4294967296:=by omega
    simp only [h3.1,h3.2,h5,cX,zk6,cC,cB,Int.toNat_natCast,zc6 i (show i < 4611686018427387904 by omega),zD7 (t.getD i aA.zero) p (by omega),Option.bind_some,zaB6]
    unfold zaL8
    by_cases c:getH (t.getD i aA.zero).aQ p=aD.zero
    · rw [bW c,bT (by rw [(zae4 _).2 c]; decide)]; rfl
    · rw [bT c,bW (by rw [(zan9 _).2 c]; rfl)]; rfl) (fun s=>by unfold zY5; simp)]
  rfl
theorem zbE4 (t:List aA) (p:aK) (hl:t.length≤1000) (hs:Lens t):zn9 t p=some (t.filterMap (zaP8 p)):=by
  unfold zn9
  rw [zby8 t aA.zero (zaP8 p) (by omega) (fun i s hi hs'=>by
    unfold zaf7
    have h3:0≤(i:Int)∧(i:Int) < (t.length:Int):=by omega
    have h4:=zaO3 hs hi
    have h5:s.length+1≤4294967296:=by omega
    simp only [h3.1,h3.2,h5,cX,zk6,cC,cB,Int.toNat_natCast,zc6 i (show i < 4611686018427387904 by omega),zP9 (t.getD i aA.zero) p (by omega) (by omega),Option.bind_some]
    unfold zaP8
    split <;> rfl) (fun s=>by unfold zaf7; simp)]
  rfl
theorem zbt9 (l:aW) (hl:l.aH.length≤1000):∃ ns:List ByteArray,ns.Pairwise ltN∧(∀ n,n ∈ ns ↔ ∃ e ∈ l.aH,e.name=n)∧zh8 l=some (ns.filterMap (sayF l.aH))∧ns.length≤l.aH.length:=by
  obtain ⟨ns,h1,h0,h3⟩:=zaF5 l.aH (by omega)
  have h2:ns.length≤l.aH.length:=by
    obtain ⟨ms,m1,m2,_⟩:=zbf8 l.aH (by omega)
    rw [h1] at m1; cases m1; exact m2
  refine ⟨ns,h0,h3,?_,h2⟩
  unfold zh8
  rw [h1,Option.bind_some,zby8 ns ⟨#[]⟩ (sayF l.aH) (by omega) (fun i s hi hs'=>by
    unfold zY3
    have h3:0≤(i:Int)∧(i:Int) < (ns.length:Int):=by omega
    have h5:s.length+1≤4294967296:=by omega
    simp only [h3.1,h3.2,h5,cX,zk6,cC,cB,Int.toNat_natCast,zc6 i (show i < 4611686018427387904 by omega),zX9 l.aH _ (by omega),Option.bind_some]
    unfold sayF
    by_cases c:zh0 l.aH (ns.getD i ⟨#[]⟩)=aD.zero
    · rw [bW c,bT (by rw [c]; decide)]; rfl
    · rw [bT c,bW (by rw [eX c]; rfl)]; rfl) (fun s=>by unfold zY3; simp)]
  rfl
theorem zbq0 (a b:List aM) (ha:a.length≤1000000):ze8 a b=some (decide (a=b)):=by
  unfold ze8
  by_cases h:a.length=b.length
  · rw [bT (by simp [h])]
    exact zcL2 a b aM.zero (by omega) h (fun i=>rfl)
  · have:¬ a=b:=fun e=>h (by rw [e])
    rw [bW (by simp; omega),eX this]
def grA (t:List aA) (p:aK) (a:aM):Bool:=if zw2 t a.name < 0 then false else covA (t.getD (zw2 t a.name).toNat aA.zero).aB (getH (t.getD (zw2 t a.name).toNat aA.zero).aQ p) a.aN
theorem zdv4 {t:List aA} (h:AscN t) {i:Nat} (hi:i < t.length) {a:aM} (hn:(t.getD i aA.zero).aB.name=a.name) (p:aK):grA t p a=covA (t.getD i aA.zero).aB (getH (t.getD i aA.zero).aQ p) a.aN:=by
  unfold grA
  rw [← hn,zaK7 h hi,bT (by omega),Int.toNat_natCast]
theorem zbq1 (t:List aA) (p:aK) (e:aP) (hl:t.length≤1000) (hs:Lens t):∃ bs L,zv9 t p e=some bs∧zj8 e=some (L,vE e)∧bs.length=L.length∧(t=[]→∀ i,bs.getD i false=false)∧bs=L.map (grA t p):=by
  obtain ⟨L,h1,h2,h3⟩:=zaj1 e
  refine ⟨L.map (grA t p),L,?_,h3,dD _,fun ht i=>?_,rfl⟩
  · unfold zv9
    rw [h1,Option.bind_some,gdp (by omega)]
    obtain ⟨x,h4,h5⟩:=zq4 (body:=zad3 t p L) (fun g=>∃ i:Nat,i≤L.length∧g=((i:Int),(L.take i).map (grA t p)++List.replicate (L.length - i) false)) (fun g=>L.length - g.1.toNat) (fun x=>x=L.map (grA t p))
      (fun g ⟨i,hi,hg⟩=>by
        subst hg
        unfold zad3
        have hlen:((L.take i).map (grA t p)++List.replicate (L.length - i) false).length=L.length:=by rw [bZ,dD,cO,gB]; omega
        by_cases c:i < L.length
        · left
          have h3:0≤(i:Int)∧(i:Int) < (L.length:Int):=by omega
          have e1:((L.take i).map (grA t p)).length=i:=by rw [dD,cO]; omega
          have e2:List.replicate (L.length - i) false=false :: List.replicate (L.length - (i+1)) false:=by rw [show L.length - i=L.length - (i+1)+1 by omega]; rfl
          have e3:=zbi7 ((L.take i).map (grA t p)) (List.replicate (L.length - (i+1)) false) false
          have e4:∀ z,((L.take i).map (grA t p)++List.replicate (L.length - i) false).set i z=(L.take i).map (grA t p)++z :: List.replicate (L.length - (i+1)) false:=fun z=>by
            have:=e3 z; rw [e1] at this; rw [e2]; exact this
          have e5:(L.take (i+1)).map (grA t p)++List.replicate (L.length - (i+1)) false=(L.take i).map (grA t p)++grA t p (L.getD i aM.zero) :: List.replicate (L.length - (i+1)) false:=by
            rw [zu1 aM.zero c,eU,dB]; rfl
          simp only [h3.1,h3.2,cX,zk6,cC,cB,Int.toNat_natCast,zc6 i (show i < 4611686018427387904 by omega),zS0 t _ (show t.length≤1000000 by omega),Option.bind_some]
          have hgr:grA t p (L.getD i aM.zero)=if zw2 t (L.getD i aM.zero).name < 0 then false else covA (t.getD (zw2 t (L.getD i aM.zero).name).toNat aA.zero).aB (getH (t.getD (zw2 t (L.getD i aM.zero).name).toNat aA.zero).aQ p) (L.getD i aM.zero).aN:=rfl
          rcases zaE1 (t:=t) (nm:=(L.getD i aM.zero).name) with e|⟨k,e,hk,_⟩
          · rw [e,bT (by decide)]
            rw [e,bW (by decide)] at hgr
            refine ⟨_,rfl,⟨i+1,c,?_⟩,by simp only [Int.toNat_natCast]; omega⟩
            rw [e5,hgr,e2]
          · have h6:=zaO3 hs hk
            rw [e,bW (by simp),gdp (by omega),gdp (by omega)]
            rw [e,bT (by omega)] at hgr
            simp only [Int.toNat_natCast] at hgr ⊢
            rw [zD7 _ _ (by omega),Option.bind_some,gdp (by rw [hlen]; exact ⟨trivial,h3.2⟩)]
            refine ⟨_,rfl,⟨i+1,c,?_⟩,by simp only [Int.toNat_natCast]; omega⟩
            rw [e5,hgr,e4]; rfl
        · right
          have e:i=L.length:=by omega
          subst e
          simp only [fC,cK,bU,cA]
          exact ⟨_,rfl,by rw [dK,gH]; simp⟩) (0,List.replicate ((L.length:Int).toNat) false) ⟨0,by omega,by simp⟩
    rw [h4,h5]; rfl
  · subst ht
    have:∀ a,grA [] p a=false:=fun a=>by unfold grA; exact bW (by show (-1:Int) < 0; decide)
    rw [bV,cL]
    cases L[i]? with
    | none=>rfl
    | some a=>exact this a
def zaL9 (q:aA) (x:aG) (L:List aM):Prop :=
  (∃ a ∈ L,a.name=q.aB.name∧covA q.aB (zh0 x.bB.aH q.aB.name) a.aN=false ∧
    ((zp7 q x.aJ).2=false∧getH q.aQ x.aJ=zH8 q.aB (zh0 x.bB.aH q.aB.name) a.aN ∨
     (zp7 q x.aJ).2=true∧getH q.aQ x.aJ=zh0 x.bB.aH q.aB.name∧(zp7 q x.aJ).1=zH8 q.aB (zh0 x.bB.aH q.aB.name) a.aN∧∀ w ∈ q.aS,w.aJ=x.aJ→w.bC=x.aZ.bC)) ∨
  ((∀ a ∈ L,a.name=q.aB.name→covA q.aB (zh0 x.bB.aH q.aB.name) a.aN=true)∧getH q.aQ x.aJ=zh0 x.bB.aH q.aB.name∧(zp7 q x.aJ).2=false)
theorem zcq8 (q:aA) (x:aG) (hl:q.aS.length≤1000):zb9 (zP5 q x) 0=some (.inr false)∧(¬ ∀ w ∈ q.aS,w.aJ=x.aJ→w.bC=x.aZ.bC)∨zb9 (zP5 q x) 0=some (.inl ())∧∀ w ∈ q.aS,w.aJ=x.aJ→w.bC=x.aZ.bC:=by
  have key:=zar0 (body:=zP5 q x) q.aS.length (fun i=>(q.aS.getD i aT.zero).aJ=x.aJ→(q.aS.getD i aT.zero).bC=x.aZ.bC) (fun i hi=>by
    unfold zP5
    have h3:0≤(i:Int)∧(i:Int) < (q.aS.length:Int):=by omega
    simp only [h3.1,h3.2,cX,eQ,zk6,cC,cB,Int.toNat_natCast,zc6 i (show i < 4611686018427387904 by omega)]
    by_cases c:(q.aS.getD i aT.zero).aJ=x.aJ∧(q.aS.getD i aT.zero).bC≠x.aZ.bC
    · rw [bW (by rw [cF c.1,eX c.2]; rfl)]
      exact ⟨false,rfl,(fun h=>nomatch h),fun h=>absurd (h c.1) c.2⟩
    · rw [bT (by
        simp only [bS,bX,cS,cR]; exact c)]
      exact ⟨true,rfl,fun _ h=>jT fun h2=>c ⟨h,h2⟩,fun _=>rfl⟩) (by unfold zP5; simp)
  have hm:=zaw2 (P:=fun w:aT=>w.aJ=x.aJ→w.bC=x.aZ.bC) (l:=q.aS) (z:=aT.zero)
  rcases key with ⟨h1,h2⟩|⟨h1,h2⟩
  · exact .inl ⟨h1,fun h=>h2 (hm.2 h)⟩
  · exact .inr ⟨h1,hm.1 h2⟩
theorem zdm8 (q:aA) (x:aG) (L:List aM) (he:x.bB.aH.length≤1000) (h0:q.aQ.length≤1000) (h1:q.aO.length≤1000) (h2:q.aS.length≤1000) (hL:L.length≤1000) (hd:dnN L) :
    ∃ b,zH1 q x L=some b∧(b=true ↔ zaL9 q x L):=by
  unfold zH1
  rw [zX9 _ _ (by omega),Option.bind_some,zD7 _ _ (by omega),Option.bind_some,zP9 _ _ (by omega) (by omega),Option.bind_some]
  obtain ⟨r,h3,h4⟩:=zq4 (body:=zV6 q x L (zh0 x.bB.aH q.aB.name) (getH q.aQ x.aJ) (zp7 q x.aJ)) (fun g=>∃ i:Nat,g=i∧i≤L.length∧∀ k,k < i→(L.getD k aM.zero).name=q.aB.name→covA q.aB (zh0 x.bB.aH q.aB.name) (L.getD k aM.zero).aN=true) (fun g=>L.length - g.toNat)
    (fun r=>r=.inl ()∧(∀ a ∈ L,a.name=q.aB.name→covA q.aB (zh0 x.bB.aH q.aB.name) a.aN=true)∨∃ b,r=.inr b∧(b=true ↔ zaL9 q x L))
    (fun g ⟨i,hi,hle,hg⟩=>by
      subst hi
      unfold zV6
      by_cases c:i < L.length
      · have h3:0≤(i:Int)∧(i:Int) < (L.length:Int):=by omega
        simp only [h3.1,h3.2,cX,zk6,cC,cB,Int.toNat_natCast,zc6 i (show i < 4611686018427387904 by omega),zbf7]
        by_cases d:((!decide ((L.getD i aM.zero).name=q.aB.name))||(zq9 q.aB (zh0 x.bB.aH q.aB.name) ((L.getD i aM.zero).aN)))=true
        · rw [bW d]
          refine .inl ⟨_,rfl,⟨i+1,rfl,c,fun k hk hn=>?_⟩,by simp only [Int.toNat_natCast]; omega⟩
          rcases hX k i with h5|h5
          · exact hg k h5 hn
          · have:k=i:=by omega
            subst this
            rw [cF hn] at d; exact d
        · rw [bT d]
          right
          simp only [dG,cS,cR,jQ,jD,gG] at d
          obtain ⟨d1,d2⟩:=d
          have hm:=zd1 (z:=aM.zero) c
          have only:∀ a ∈ L,a.name=q.aB.name→a=L.getD i aM.zero:=fun a ha hn=>zcz2 hd ha hm (hn.trans d1.symm)
          have not2:¬ (∀ a ∈ L,a.name=q.aB.name→covA q.aB (zh0 x.bB.aH q.aB.name) a.aN=true):=fun h=>by
            have h5:zq9 q.aB (zh0 x.bB.aH q.aB.name) ((L.getD i aM.zero).aN)=true:=h _ hm d1
            rw [d2] at h5; cases h5
          rw [zbl5,Option.bind_some]
          cases hw:(zp7 q x.aJ).2 with
          | false =>
            simp only [dF,cB]
            refine ⟨_,rfl,.inr ⟨_,rfl,fun hb=>.inl ⟨_,hm,d1,d2,.inl ⟨hw,fW hb⟩⟩,fun hp=>?_⟩⟩
            rcases hp with ⟨a,ha,hn,_,hp⟩|hp
            · rw [only a ha hn] at hp
              rcases hp with hp|hp
              · exact cF hp.2
              · rw [hw] at hp; exact absurd hp.1 (by decide)
            · exact absurd hp.1 not2
          | true =>
            simp only [cU,bU,cA]
            have fin:∀ b:Bool,(b=true ↔ getH q.aQ x.aJ=zh0 x.bB.aH q.aB.name∧(zp7 q x.aJ).1=zH8 q.aB (zh0 x.bB.aH q.aB.name) (L.getD i aM.zero).aN∧∀ w ∈ q.aS,w.aJ=x.aJ→w.bC=x.aZ.bC)→(b=true ↔ zaL9 q x L):=fun b hb=>by
              rw [hb]
              refine ⟨fun h=>.inl ⟨_,hm,d1,d2,.inr ⟨hw,h⟩⟩,fun hp=>?_⟩
              rcases hp with ⟨a,ha,hn,_,hp⟩|hp
              · rw [only a ha hn] at hp
                rcases hp with hp|hp
                · rw [hw] at hp; exact absurd hp.1 (by decide)
                · exact hp.2
              · exact absurd hp.1 not2
            rcases zcq8 q x h2 with ⟨e1,e2⟩|⟨e1,e2⟩
            · rw [e1]
              exact ⟨_,rfl,.inr ⟨false,rfl,fin _ ⟨(fun h=>nomatch h),fun h=>absurd h.2.2 e2⟩⟩⟩
            · rw [e1]
              refine ⟨_,rfl,.inr ⟨_,rfl,fin _ ?_⟩⟩
              rw [bS,bX,bX]
              exact ⟨fun h=>⟨h.1,h.2,e2⟩,fun h=>⟨h.1,h.2.1⟩⟩
      · right
        have e:i=L.length:=by omega
        subst e
        simp only [fC,cK,bU,cA]
        exact ⟨_,rfl,.inl ⟨rfl,zaw2.1 hg⟩⟩) 0 ⟨0,rfl,by omega,fun k hk=>by omega⟩
  rw [h3]
  rcases h4 with ⟨rfl,h4⟩|⟨b,rfl,hb⟩
  · refine ⟨_,rfl,?_⟩
    rw [bS,bX,cS]
    refine ⟨fun h=>.inr ⟨h4,h⟩,fun hp=>?_⟩
    rcases hp with ⟨a,ha,hn,hc,_⟩|hp
    · rw [h4 a ha hn] at hc; cases hc
    · exact hp.2
  · exact ⟨b,rfl,hb⟩
theorem zcO1 (e:aP):∃ b,zg4 e aP.zero=some b∧(b=true ↔ e=aP.zero):=by
  unfold zg4
  show ∃ b,zK1 (zaf6 _) e aP.zero=some b∧_
  unfold zK1
  by_cases h:(((!decide (e.k=aP.zero.k))||(!decide (e.bF=aP.zero.bF)))||(!decide ((e.bE.length:Int)=(aP.zero.bE.length:Int))))=true
  · rw [bW h]
    refine ⟨_,rfl,(fun h=>nomatch h),fun he=>?_⟩
    rw [he] at h; simp at h
  · rw [bT h]
    simp only [dG,jQ,cS,cR,jD] at h
    have hk:e.bE.length=0:=by
      have h2:=h.2
      simp only [aP.zero,List.length_nil] at h2; omega
    rw [zn4]
    unfold zam6
    simp only [hk,Int.natCast_zero,show ¬ (0:Int) < 0 by omega,cK,bU,cA]
    refine ⟨_,rfl,fun _=>?_,fun _=>rfl⟩
    have hk:=cW hk
    obtain ⟨⟨h1,h2⟩,_⟩:=h
    have eta:e=⟨e.k,e.bF,e.bE⟩:=by cases e; rfl
    rw [eta,h1,h2,hk]; rfl
theorem zcg0 (r:bK):∃ b,zf1 r { bK.zero with }=some b∧(b=true ↔ r=bK.zero):=by
  obtain ⟨b,h1,h2⟩:=zcO1 r.bP
  unfold zf1
  rw [show ({ bK.zero with }:bK).bP=aP.zero from rfl,h1,Option.bind_some]
  refine ⟨_,rfl,?_⟩
  rw [bS,bS,h2,bX,bX]
  constructor
  · rintro ⟨⟨h3,h4⟩,h5⟩
    cases r
    simp only at h3 h4 h5
    subst h3 h4 h5
    rfl
  · intro h; rw [h]; exact ⟨⟨rfl,rfl⟩,rfl⟩
theorem zbU2 (l:List aI) (nm:ByteArray) (hl:l.length≤1000):∃ v,zm0 l nm=some v∧(v.2=true→v.1 ∈ l∧v.1.name=nm)∧(v.2=false→∀ r ∈ l,r.name≠nm):=by
  unfold zm0
  obtain ⟨r,h3,h4⟩:=zq4 (body:=zao9 l nm) (fun g=>∃ i:Nat,g=i∧i≤l.length∧∀ k,k < i→(l.getD k aI.zero).name≠nm) (fun g=>l.length - g.toNat) (fun r=>r=.inl ()∧(∀ x ∈ l,x.name≠nm)∨∃ x,r=.inr (x,true)∧x ∈ l∧x.name=nm)
    (fun g ⟨i,hi,hle,hg⟩=>by
      subst hi
      unfold zao9
      by_cases c:i < l.length
      · have h3:0≤(i:Int)∧(i:Int) < (l.length:Int):=by omega
        simp only [h3.1,h3.2,cX,zk6,cC,cB,Int.toNat_natCast,zc6 i (show i < 4611686018427387904 by omega),zbf7]
        by_cases d:(l.getD i aI.zero).name=nm
        · rw [bW (cF d)]
          exact .inr ⟨_,rfl,.inr ⟨_,rfl,zd1 c,d⟩⟩
        · rw [bT (by simpa using d)]
          refine .inl ⟨_,rfl,⟨i+1,rfl,c,fun k hk=>?_⟩,by simp only [Int.toNat_natCast]; omega⟩
          rcases hX k i with h5|h5
          · exact hg k h5
          · have:k=i:=by omega
            subst this; exact d
      · right
        have e:i=l.length:=by omega
        subst e
        simp only [fC,cK,bU,cA]
        exact ⟨_,rfl,.inl ⟨rfl,zaw2.1 hg⟩⟩) 0 ⟨0,rfl,by omega,fun k hk=>by omega⟩
  rw [h3]
  rcases h4 with ⟨rfl,h4⟩|⟨x,rfl,hx⟩
  · exact ⟨_,rfl,(fun h=>nomatch h),fun _=>h4⟩
  · exact ⟨_,rfl,(fun _=>hx),fun h=>nomatch h⟩
theorem zby9 (l:List aI) (a:aM) (hl:catV l=true):∃ v,zI5 l a=some v∧(v=0 ↔ ∃ r ∈ l,r.name=a.name∧za4 r a.aN=true):=by
  obtain ⟨h8,_,hp⟩:=(zbf5 l).1 hl
  unfold zI5
  rw [zbf6,Option.bind_some,hl]
  obtain ⟨v,h1,h2,h3⟩:=zbU2 l a.name (by omega)
  simp only [cU,bU,cA,h1,Option.bind_some]
  cases hv:v.2 with
  | false=>exact ⟨10,rfl,(fun h=>nomatch h),fun ⟨r,hr,hn,_⟩=>absurd hn (h3 hv r hr)⟩
  | true =>
    obtain ⟨m1,m2⟩:=h2 hv
    simp only [cU,bU,cA]
    cases hf:zs7 v.1 a.aN with
    | false =>
      refine ⟨12,rfl,(fun h=>nomatch h),fun ⟨r,hr,hn,hr2⟩=>?_⟩
      have:r=v.1:=by
        obtain ⟨i,hi,rfl⟩:=eR.1 hr
        obtain ⟨j,hj,e⟩:=eR.1 m1
        rw [← e] at m2 ⊢
        rcases iK i j with c|c|c
        · exact absurd (hn.trans m2.symm) (zaX3 (dO.1 hp i j hi hj c))
        · subst c; rfl
        · exact absurd (m2.trans hn.symm) (zaX3 (dO.1 hp j i hj hi c))
      rw [this,← zaB4,hf] at hr2; cases hr2
    | true=>exact ⟨0,rfl,(fun _=>⟨v.1,m1,m2,by rw [← zaB4]; exact hf⟩),fun _=>rfl⟩
theorem zaU4 (l:List aI) {e:aP} (he:vE e=true) (hl:catV l=true) {L:List aM} (hL:zj8 e=some (L,true)):∃ v,zE1 l e=some v∧(v=0 ↔ ∀ a ∈ L,∃ r ∈ l,r.name=a.name∧za4 r a.aN=true):=by
  unfold zE1
  have hw:=zbt7 hL
  simp only at hw
  rw [hL,Option.bind_some]
  simp only [cU,bU,cA]
  obtain ⟨r,h4,h5⟩:=zq4 (body:=zad2 l (L,true)) (fun g=>∃ i:Nat,g=i∧i≤L.length∧∀ k,k < i→∃ r ∈ l,r.name=(L.getD k aM.zero).name∧za4 r (L.getD k aM.zero).aN=true) (fun g=>L.length - g.toNat)
    (fun r=>(∃ v,r=.inr v∧v≠0∧¬ ∀ a ∈ L,∃ r ∈ l,r.name=a.name∧za4 r a.aN=true)∨r=.inl ()∧∀ a ∈ L,∃ r ∈ l,r.name=a.name∧za4 r a.aN=true)
    (fun g ⟨i,hi,hle,hg⟩=>by
      subst hi
      unfold zad2
      by_cases c:i < L.length
      · have h3:0≤(i:Int)∧(i:Int) < (L.length:Int):=by omega
        obtain ⟨v,e1,e2⟩:=zby9 l (L.getD i aM.zero) hl
        simp only [h3.1,h3.2,cX,zk6,cC,cB,Int.toNat_natCast,zc6 i (show i < 4611686018427387904 by omega),e1,Option.bind_some]
        by_cases d:v=0
        · rw [bT (by simp [d])]
          refine .inl ⟨_,rfl,⟨i+1,rfl,c,fun k hk=>?_⟩,by simp only [Int.toNat_natCast]; omega⟩
          rcases hX k i with h5|h5
          · exact hg k h5
          · have:k=i:=by omega
            subst this; exact e2.1 d
        · rw [bW (by simp [d])]
          exact .inr ⟨_,rfl,.inl ⟨v,rfl,d,fun h=>d (e2.2 (h _ (zd1 c)))⟩⟩
      · right
        have e:i=L.length:=by omega
        subst e
        simp only [fC,cK,bU,cA]
        exact ⟨_,rfl,.inr ⟨rfl,zaw2.1 hg⟩⟩) 0 ⟨0,rfl,by omega,fun k hk=>by omega⟩
  rw [h4]
  rcases h5 with ⟨v,rfl,hv,hn⟩|⟨rfl,hr⟩
  · exact ⟨v,rfl,fun h=>absurd h hv,fun h=>absurd h hn⟩
  · exact ⟨0,rfl,fun _=>hr,fun _=>rfl⟩
structure WaitV (now:Int) (t:List aA) (x:aG):Prop where
 ve:vE x.aZ.bP=true
 pr:0≤x.aZ.bC∧x.aZ.bC≤7
 li:0≤x.aZ.limit∧x.aZ.limit≤1000
 since:0≤x.since∧x.since≤now
 res:∀ L b,zj8 x.aZ.bP=some (L,b)→∀ a ∈ L,∃ q ∈ t,q.aB.name=a.name∧za4 q.aB a.aN=true
 part:∀ L b,zj8 x.aZ.bP=some (L,b)→∀ q ∈ t,zaL9 q x L
structure ProcV (now:Int) (t:List aA) (x:aG):Prop where
 pv:zc5 x.aJ=true
 cost:1≤x.cost∧x.cost≤1000
 gen:0≤x.gen∧x.gen≤1073741824
 led:LedgerP x.bB
 held:∀ n,zh0 x.bB.aH n≠aD.zero→∃ q ∈ t,q.aB.name=n∧za4 q.aB (zh0 x.bB.aH n)=true
 wait:x.bH=true→WaitV now t x
 run:x.bH=false→x.aZ=bK.zero∧x.since=0∧∀ q ∈ t,getH q.aQ x.aJ=zh0 x.bB.aH q.aB.name∧(zp7 q x.aJ).2=false
def zcq9 (now:Int) (t:List aA) (x:aG):Prop:=x.bH=true→(x.aZ.limit=0∨now < x.since+x.aZ.limit)∧∀ bs,zv9 t x.aJ x.aZ.bP=some bs→zA7 x.aZ.bP bs=some false
structure CenV (c:bA):Prop where
 now:0≤c.now∧c.now≤1073741824
 t:ValidT c.aC
 len:c.aF.length≤8
 each:∀ x ∈ c.aF,ProcV c.now c.aC x
 asc:c.aF.Pairwise fun a b=>ltP a.aJ b.aJ
 aF:∀ p ∈ zw6 c.aC,∃ x ∈ c.aF,x.aJ=p
 quiet:∀ x ∈ c.aF,zcq9 c.now c.aC x
theorem ValidT.inj {t:List aA} (h:ValidT t) {q q':aA} (h1:q ∈ t) (h2:q' ∈ t) (e:q.aB.name=q'.aB.name):q=q':=by
 obtain ⟨i,hi,rfl⟩:=zy5 (z:=aA.zero) h1
 obtain ⟨j,hj,rfl⟩:=zy5 (z:=aA.zero) h2
 rw [zaB8 h.asc hi hj e]
theorem ValidT.lens' {t:List aA} (h:ValidT t):t.length≤1000∧Lens t:=⟨by have:=h.len; omega,h.lens⟩
theorem zaO4 {l:List bG} {n:ByteArray} (h:zh0 l n≠aD.zero):∃ e ∈ l,e.name=n:=by
 have:∀ (l:List bG) (a:aD),(∀ e ∈ l,e.name≠n)→l.foldl (sayE n) a=a:=by
  intro l
  induction l with
  | nil=>intro a _; rfl
  | cons e l ih =>
   intro a hn
   rw [List.foldl_cons]
   have:sayE n a e=a:=by unfold sayE; rw [bT (hn e (.head _))]
   rw [this]; exact ih a fun x hx=>hn x (.tail _ hx)
 by_cases c:∃ e ∈ l,e.name=n
 ·exact c
 ·exact absurd (this l aD.zero fun e he hh=>c ⟨e,he,hh⟩) h
theorem zcz5 (c:bA) (hl:c.aC.length≤1000) (v:List aM) (hv:v.length≤1000) (hi:AscN c.aC) :
  zb9 (zL1 c v) 0=some (.inr false)∧(¬ ∀ i,i < v.length→∃ q ∈ c.aC,q.aB.name=(v.getD i aM.zero).name∧za4 q.aB (v.getD i aM.zero).aN=true)∨zb9 (zL1 c v) 0=some (.inl ())∧∀ i,i < v.length→∃ q ∈ c.aC,q.aB.name=(v.getD i aM.zero).name∧za4 q.aB (v.getD i aM.zero).aN=true :=
 zar0 v.length _ (fun i hi2=>by
  unfold zL1
  have h3:0≤(i:Int)∧(i:Int) < (v.length:Int):=by omega
  simp only [h3.1,h3.2,cX,eQ,zk6,cC,cB,Int.toNat_natCast,zc6 i (show i < 4611686018427387904 by omega),zS0 c.aC _ (show c.aC.length≤1000000 by omega),Option.bind_some]
  rcases zaE1 (t:=c.aC) (nm:=(v.getD i aM.zero).name) with e|⟨k,e,hk,hn⟩
  ·refine ⟨false,?_,(fun h=>nomatch h),fun ⟨q,hq,hqn,_⟩=>?_⟩
   ·rw [e,gdp (by intro h; exact absurd h (by decide))]; rfl
   ·obtain ⟨j,hj,rfl⟩:=zy5 (z:=aA.zero) hq
    have:=zaK7 hi hj
    rw [hqn,e] at this; omega
  ·rw [e,gdp (by intro _; omega)]
   simp only [Int.toNat_natCast,show ¬ (k:Int) < 0 by omega,cK,dR]
   cases hf:zs7 (c.aC.getD k aA.zero).aB (v.getD i aM.zero).aN with
   | false =>
    refine ⟨false,rfl,(fun h=>nomatch h),fun ⟨q,hq,hqn,hqf⟩=>?_⟩
    obtain ⟨j,hj,rfl⟩:=zy5 (z:=aA.zero) hq
    have:=zaB8 hi hj hk (hqn.trans hn.symm)
    subst this
    rw [← zaB4,hf] at hqf; cases hqf
   | true=>exact ⟨true,rfl,(fun _=>⟨_,zd1 hk,hn,by rw [← zaB4]; exact hf⟩),fun _=>rfl⟩) (by unfold zL1; simp)
theorem zcr0 (c:bA) (x:aG) (L:List aM) (hL:L.length≤8) (hd:dnN L) (he:x.bB.aH.length≤1000) (hl:c.aC.length≤1000) (hs:Lens c.aC) :
  zb9 (zE6 c x L) 0=some (.inr false)∧(¬ ∀ q ∈ c.aC,zaL9 q x L)∨zb9 (zE6 c x L) 0=some (.inl ())∧∀ q ∈ c.aC,zaL9 q x L:=by
 have key:=zar0 (body:=zE6 c x L) c.aC.length (fun i=>zaL9 (c.aC.getD i aA.zero) x L) (fun i hi=>by
  unfold zE6
  have h3:0≤(i:Int)∧(i:Int) < (c.aC.length:Int):=by omega
  have h4:=zaO3 hs hi
  obtain ⟨b,h1,h2⟩:=zdm8 (c.aC.getD i aA.zero) x L he (by omega) (by omega) (by omega) (by omega) hd
  simp only [h3.1,h3.2,cX,eQ,zk6,cC,cB,Int.toNat_natCast,zc6 i (show i < 4611686018427387904 by omega),h1,Option.bind_some]
  cases b with
  | false=>exact ⟨false,rfl,h2⟩
  | true=>exact ⟨true,rfl,h2⟩) (by unfold zE6; simp)
 have hm:=zaw2 (P:=fun q:aA=>zaL9 q x L) (l:=c.aC) (z:=aA.zero)
 rcases key with ⟨h1,h2⟩|⟨h1,h2⟩
 ·exact .inl ⟨h1,fun h=>h2 (hm.2 h)⟩
 ·exact .inr ⟨h1,hm.1 h2⟩
theorem zbU3 {t:List aA} (hv:ValidT t) {l:List bG} {p:aK} {ns:List ByteArray} (h1:ns.Pairwise ltN) (h2:∀ n,n ∈ ns ↔ ∃ e ∈ l,e.name=n) (hheld:∀ n,zh0 l n≠aD.zero→∃ q ∈ t,q.aB.name=n) :
  ns.filterMap (sayF l)=t.filterMap (zaL8 p) ↔ ∀ q ∈ t,getH q.aQ p=zh0 l q.aB.name:=by
 have hsay:∀ n,(⟨n,zh0 l n⟩:aM) ∈ ns.filterMap (sayF l) ↔ zh0 l n≠aD.zero:=fun n=>by
  rw [fK]
  constructor
  ·rintro ⟨m,hm,e⟩ z
   unfold sayF at e
   split at e
   ·cases e
   ·rename_i c
    simp only [dC,aM.mk.injEq] at e
    rw [e.1] at c; exact c z
  ·exact fun hn=>⟨n,(h2 n).2 (zaO4 hn),by unfold sayF; rw [bT hn]⟩
 have hhold:∀ q ∈ t,∀ a,(⟨q.aB.name,a⟩:aM) ∈ t.filterMap (zaL8 p) ↔ getH q.aQ p=a∧a≠aD.zero:=fun q hq a=>by
  rw [fK]
  constructor
  ·rintro ⟨q',hq',e⟩
   unfold zaL8 at e
   split at e
   ·cases e
   ·rename_i c
    simp only [dC,aM.mk.injEq] at e
    rw [← hv.inj hq' hq e.1,← e.2]
    exact ⟨rfl,c⟩
  ·rintro ⟨rfl,c⟩
   exact ⟨q,hq,by unfold zaL8; rw [bT c]⟩
 constructor
 ·intro e q hq
  by_cases z1:getH q.aQ p=aD.zero
  ·by_cases z2:zh0 l q.aB.name=aD.zero
   ·rw [z1,z2]
   ·have:=(hsay _).2 z2
    rw [e,hhold q hq] at this
    exact this.1
  ·have:=(hhold q hq _).2 ⟨rfl,z1⟩
   rw [← e] at this
   obtain ⟨m,hm,e2⟩:=fK.1 this
   unfold sayF at e2
   split at e2
   ·cases e2
   ·simp only [dC,aM.mk.injEq] at e2
    rw [← e2.1]; exact e2.2.symm
 ·intro h
  have irr:∀ a:ByteArray,¬ ltN a a:=fun a h=>zaX3 h rfl
  have p1:(ns.filterMap (sayF l)).Pairwise fun a b:aM=>ltN a.name b.name:=by
   rw [iY]
   refine h1.imp fun {a b} hab x hx y hy=>?_
   have g:∀ {n:ByteArray} {z:aM},sayF l n=some z→z.name=n:=fun {n z} hz=>by
    unfold sayF at hz; split at hz
    ·cases hz
    ·cases hz; rfl
   rw [g hx,g hy]; exact hab
  have p2:(t.filterMap (zaL8 p)).Pairwise fun a b:aM=>ltN a.name b.name:=by
   rw [iY]
   refine hv.asc.imp fun {a b} hab x hx y hy=>?_
   have g:∀ {q:aA} {z:aM},zaL8 p q=some z→z.name=q.aB.name:=fun {q z} hz=>by
    unfold zaL8 at hz; split at hz
    ·cases hz
    ·cases hz; rfl
   rw [g hx,g hy]; exact hab
  have nd:∀ {m:List aM},(m.Pairwise fun a b:aM=>ltN a.name b.name)→m.Nodup:=fun hm=>hm.imp fun hab e=>by rw [e] at hab; exact irr _ hab
  refine iU (le:=fun a b:aM=>ltN a.name b.name) (fun a b _ _ h3 h4=>absurd (zaU1 h3 h4) (irr _)) p1 p2 ((iN (nd p1) (nd p2)).2 fun a=>?_)
  constructor
  ·intro ha
   obtain ⟨n,hn,e⟩:=fK.1 ha
   unfold sayF at e
   split at e
   ·cases e
   ·rename_i c
    cases e
    obtain ⟨q,hq,rfl⟩:=hheld _ c
    rw [hhold q hq]; exact ⟨h q hq,c⟩
  ·intro ha
   obtain ⟨q,hq,e⟩:=fK.1 ha
   unfold zaL8 at e
   split at e
   ·cases e
   ·rename_i c
    cases e
    rw [h q hq] at c ⊢
    exact (hsay _).2 c
theorem zcr1 {t:List aA} {p:aK}:((t.filterMap (zaP8 p)).length:Int)=0 ↔ ∀ q ∈ t,(zp7 q p).2=false:=by
 constructor
 ·intro h q hq
  rcases hb (zp7 q p).2 with c|c
  ·have:(⟨q.aB.name,(zp7 q p).1⟩:aM) ∈ t.filterMap (zaP8 p):=fK.2 ⟨q,hq,by unfold zaP8; rw [bW c]⟩
   rw [cW (l:=t.filterMap (zaP8 p)) (by omega)] at this; cases this
  ·exact c
 ·intro h
  have:t.filterMap (zaP8 p)=[]:=List.filterMap_eq_nil_iff.2 fun q hq=>by unfold zaP8; rw [bT (by rw [h q hq]; decide)]
  rw [this]; rfl
theorem zdd0 {t:List aA} (hv:ValidT t):catV (t.map (·.aB))=true:=by
 rw [zbf5]
 refine ⟨by rw [dD]; exact hv.len,fun r hr=>?_,?_⟩
 ·obtain ⟨q,hq,rfl⟩:=cH.1 hr
  exact ((zr8 q).1 (hv.each q hq)).1.res
 ·rw [gO]; exact hv.asc
theorem zbg1 (r:bK):zR8 r=some (vE r.bP&&(decide (0≤r.bC)&&(decide (r.bC≤7)&&(decide (0≤r.limit)&&decide (r.limit≤1000))))):=by
 unfold zR8
 rw [zaL3,Option.bind_some]
 simp only [gT]
theorem zcz6 (c:bA) (x:aG) (hv:ValidT c.aC) (hnow:0≤c.now∧c.now≤1073741824):∃ b,zE2 c x=some b∧(b=true ↔ ProcV c.now c.aC x∧zcq9 c.now c.aC x):=by
 obtain ⟨hl,hs⟩:=hv.lens'
 unfold zE2
 obtain ⟨bl,l1,l2⟩:=zbf9 x.bB
 rw [l1,zaK0]
 cases hp:zc5 x.aJ with
 | false=>exact ⟨false,rfl,(fun h=>nomatch h),fun h=>by have:=h.1.pv; rw [hp] at this; cases this⟩
 | true =>
 by_cases cc:x.cost < 1∨1000 < x.cost
 ·refine ⟨false,?_,(fun h=>nomatch h),fun h=>by have:=h.1.cost; omega⟩
  rcases cc with h|h <;> simp [h]
 have c1:¬ x.cost < 1:=fun h=>cc (.inl h)
 have c2:¬ 1000 < x.cost:=fun h=>cc (.inr h)
 simp only [c1,c2,cK,cU,fA,dF,cB,Option.bind_some,dR]
 cases bl with
 | false=>exact ⟨false,rfl,(fun h=>nomatch h),fun h=>l2.2 h.1.led⟩
 | true =>
 have led:=l2.1 rfl
 by_cases cg:x.gen < 0∨1073741824 < x.gen
 ·refine ⟨false,?_,(fun h=>nomatch h),fun h=>by have:=h.1.gen; omega⟩
  rcases cg with h|h <;> simp [h]
 have g1:¬ x.gen < 0:=fun h=>cg (.inl h)
 have g2:¬ 1073741824 < x.gen:=fun h=>cg (.inr h)
 simp only [g1,g2,cK,cU,fA,bU,cA]
 obtain ⟨ns,n1,n2,n3,n4⟩:=zbt9 x.bB (by have:=led.le; omega)
 have hle:=led.le
 have hv':(ns.filterMap (sayF x.bB.aH)).length≤1000:=by have:=hZ (sayF x.bB.aH) ns; omega
 rw [n3,Option.bind_some]
 have hheldiff:(∀ i,i < (ns.filterMap (sayF x.bB.aH)).length→∃ q ∈ c.aC,q.aB.name=((ns.filterMap (sayF x.bB.aH)).getD i aM.zero).name∧za4 q.aB ((ns.filterMap (sayF x.bB.aH)).getD i aM.zero).aN=true) ↔
   ∀ n,zh0 x.bB.aH n≠aD.zero→∃ q ∈ c.aC,q.aB.name=n∧za4 q.aB (zh0 x.bB.aH n)=true:=by
  rw [zaw2 (P:=fun a:aM=>∃ q ∈ c.aC,q.aB.name=a.name∧za4 q.aB a.aN=true)]
  constructor
  ·intro h n hn
   exact h ⟨n,zh0 x.bB.aH n⟩ (fK.2 ⟨n,(n2 n).2 (zaO4 hn),by unfold sayF; rw [bT hn]⟩)
  ·intro h a ha
   obtain ⟨n,hn,e⟩:=fK.1 ha
   unfold sayF at e
   split at e
   ·cases e
   ·rename_i c; cases e; exact h n c
 rcases zcz5 c hl _ hv' hv.asc with ⟨h1,h2⟩|⟨h1,h2⟩
 ·exact ⟨false,by rw [h1]; rfl,(fun h=>nomatch h),fun h=>absurd (hheldiff.2 h.1.held) h2⟩
 have hheld:=hheldiff.1 h2
 rw [h1,Option.bind_some]
 show ∃ b,zT2 c x _ ()=some b∧_
 unfold zT2
 have hlen2:(c.aC.filterMap (zaL8 x.aJ)).length≤1000:=by have:=hZ (zaL8 x.aJ) c.aC; omega
 cases hw:x.bH with
 | false =>
  simp only [dF,cB]
  obtain ⟨b2,s2,s3⟩:=zcg0 x.aZ
  rw [s2,Option.bind_some,zbt8 _ _ hl hs,zbE4 _ _ hl hs]
  have hsame:=zbU3 (p:=x.aJ) hv n1 n2 fun n hn=>by obtain ⟨q,hq,hqn,_⟩:=hheld n hn; exact ⟨q,hq,hqn⟩
  have hend:ProcV c.now c.aC x∧zcq9 c.now c.aC x ↔ (x.aZ=bK.zero∧x.since=0)∧ns.filterMap (sayF x.bB.aH)=c.aC.filterMap (zaL8 x.aJ)∧((c.aC.filterMap (zaP8 x.aJ)).length:Int)=0:=by
   rw [hsame,zcr1]
   constructor
   ·rintro ⟨h,_⟩
    obtain ⟨r1,r2,r3⟩:=h.run hw
    exact ⟨⟨r1,r2⟩,fun q hq=>(r3 q hq).1,fun q hq=>(r3 q hq).2⟩
   ·rintro ⟨⟨r1,r2⟩,r3,r4⟩
    exact ⟨⟨hp,by omega,by omega,led,hheld,(fun h=>by rw [hw] at h; cases h),fun _=>⟨r1,r2,fun q hq=>⟨r3 q hq,r4 q hq⟩⟩⟩,fun h=>by rw [hw] at h; cases h⟩
  rw [hend]
  by_cases c3:(b2&&decide (x.since=0))=true
  ·have c3':=c3
   rw [bS,s3,bX] at c3'
   simp only [c3,cB,Option.bind_some,zbq0 _ _ (show (ns.filterMap (sayF x.bB.aH)).length≤1000000 by omega),cJ]
   by_cases c4:ns.filterMap (sayF x.bB.aH)=c.aC.filterMap (zaL8 x.aJ)
   ·simp only [c4,cC,cB,Option.bind_some,cJ]
    exact ⟨_,rfl,fun h=>⟨c3',trivial,fW h⟩,fun h=>cF h.2.2⟩
   ·simp only [c4,cK,bU,cA,Option.bind_some,eP]
    exact ⟨false,rfl,(fun h=>nomatch h),fun h=>h.2.1.elim⟩
  ·have c3':¬ (x.aZ=bK.zero∧x.since=0):=fun h=>c3 (by rw [bS,s3,bX]; exact h)
   simp only [c3,cA,Option.bind_some,bU,eP]
   exact ⟨false,rfl,(fun h=>nomatch h),fun h=>absurd h.1 c3'⟩
 | true =>
  simp only [cU,bU,cA]
  rw [zbg1,Option.bind_some]
  by_cases hreq:vE x.aZ.bP=true∧(0≤x.aZ.bC∧x.aZ.bC≤7)∧(0≤x.aZ.limit∧x.aZ.limit≤1000)
  ·rw [show (vE x.aZ.bP&&(decide (0≤x.aZ.bC)&&(decide (x.aZ.bC≤7)&&(decide (0≤x.aZ.limit)&&decide (x.aZ.limit≤1000)))))=true by
    simp only [hreq.1,hreq.2.1.1,hreq.2.1.2,hreq.2.2.1,hreq.2.2.2,cC,gJ]]
   obtain ⟨hvE,hpr,hli⟩:=hreq
   obtain ⟨l',a1,a2,a3⟩:=zaj1 x.aZ.bP
   rw [hvE] at a3
   have hdn:=zbQ6 a3
   obtain ⟨v9,r1,r2⟩:=zaU4 (c.aC.map (·.aB)) hvE (zdd0 hv) a3
   have r2':v9=0 ↔ ∀ a ∈ l',∃ q ∈ c.aC,q.aB.name=a.name∧za4 q.aB a.aN=true:=by
    rw [r2]
    refine forall_congr' fun a=>forall_congr' fun ha=>?_
    constructor
    ·rintro ⟨r,hr,e⟩
     obtain ⟨q,hq,rfl⟩:=cH.1 hr
     exact ⟨q,hq,e⟩
    ·rintro ⟨q,hq,e⟩
     exact ⟨_,cH.2 ⟨q,hq,rfl⟩,e⟩
   simp only [cB,zaU3 _ hl,Option.bind_some,r1,cU,dR]
   obtain ⟨bs,L,q1,q2,_⟩:=zbq1 c.aC x.aJ x.aZ.bP hl hs
   obtain ⟨b11,q3,_⟩:=zbg0 hvE bs
   rw [q1]
   obtain ⟨B,hB,hB2⟩:∃ B:Bool,((((!decide (v9=0))||(decide (x.since < 0)))||(decide (c.now < x.since)))||((!decide (x.aZ.limit=0))&&(decide ((IntKind.i64.wrap (x.since+x.aZ.limit))≤c.now))))=B∧(B=false ↔ v9=0∧(0≤x.since∧x.since≤c.now)∧(x.aZ.limit=0∨c.now < x.since+x.aZ.limit)):=by
    refine ⟨_,rfl,?_⟩
    simp only [fT,jH,Bool.not_eq_false',bX,cR]
    constructor
    ·rintro ⟨⟨⟨k1,k2⟩,k3⟩,k4⟩
     rw [zi0 (by omega) (by omega)] at k4
     exact ⟨k1,by omega,by omega⟩
    ·rintro ⟨k1,k2,k3⟩
     rw [zi0 (by omega) (by omega)]
     exact ⟨⟨⟨k1,by omega⟩,by omega⟩,by omega⟩
   have hq:∀ hh:zA7 x.aZ.bP bs=some b11,(∀ bs',zv9 c.aC x.aJ x.aZ.bP=some bs'→zA7 x.aZ.bP bs'=some false) ↔ b11=false:=fun hh=>by
    rw [q1]
    constructor
    ·intro h; have:=h bs rfl; rw [hh] at this; exact dZ this
    ·intro h bs' e; cases e; rw [hh,h]
   simp only [hB]
   cases B with
   | true =>
    refine ⟨false,rfl,(fun h=>nomatch h),fun h=>?_⟩
    have w:=h.1.wait hw
    exact (hB2.2 ⟨r2'.2 (w.res _ _ a3),w.since,(h.2 hw).1⟩).symm
   | false =>
    obtain ⟨k1,k2,k3⟩:=hB2.1 rfl
    simp only [dF,cB,Option.bind_some,q3,dR]
    cases b11 with
    | true =>
     refine ⟨false,rfl,(fun h=>nomatch h),fun h=>?_⟩
     have:=(hq q3).1 (h.2 hw).2
     cases this
    | false =>
     simp only [bU,cA]
     rw [a1,Option.bind_some]
     rcases zcr0 c x l' a2 hdn (by omega) hl hs with ⟨h5,h6⟩|⟨h5,h6⟩
     ·exact ⟨false,by rw [h5]; rfl,(fun h=>nomatch h),fun h=>absurd ((h.1.wait hw).part _ _ a3) h6⟩
     ·refine ⟨true,by rw [h5]; rfl,fun _=>⟨⟨hp,by omega,by omega,led,hheld,fun _=>⟨hvE,hpr,hli,k2,fun L b hL=>?_,fun L b hL=>?_⟩,(fun h=>by rw [hw] at h; cases h)⟩,fun _=>⟨k3,(hq q3).2 rfl⟩⟩,fun _=>rfl⟩
      ·rw [a3] at hL; cases hL; exact r2'.1 k1
      ·rw [a3] at hL; cases hL; exact h6
  ·obtain ⟨B,hB⟩:∃ B:Bool,(vE x.aZ.bP&&(decide (0≤x.aZ.bC)&&(decide (x.aZ.bC≤7)&&(decide (0≤x.aZ.limit)&&decide (x.aZ.limit≤1000)))))=B:=⟨_,rfl⟩
   have hBf:B=false:=by
    rw [← hB,dU]
    intro h
    simp only [bS,bX] at h
    exact hreq ⟨h.1,⟨h.2.1,h.2.2.1⟩,h.2.2.2.1,h.2.2.2.2⟩
   rw [hB,hBf]
   exact ⟨false,rfl,(fun h=>nomatch h),fun h=>absurd ⟨(h.1.wait hw).ve,(h.1.wait hw).pr,(h.1.wait hw).li⟩ hreq⟩
theorem zcr2 (c:bA) (hl:c.aF.length≤8) (v:List aK) (hv:v.length≤1000) :
  zb9 (zL2 c v) 0=some (.inr false)∧(¬ ∀ p ∈ v,∃ x ∈ c.aF,x.aJ=p)∨zb9 (zL2 c v) 0=some (.inl ())∧∀ p ∈ v,∃ x ∈ c.aF,x.aJ=p:=by
 have key:=zar0 (body:=zL2 c v) v.length (fun i=>∃ x ∈ c.aF,x.aJ=v.getD i aK.zero) (fun i hi=>by
  unfold zL2
  have h3:0≤(i:Int)∧(i:Int) < (v.length:Int):=by omega
  obtain ⟨k,h1,h2⟩:=zaL7 c.aF (v.getD i aK.zero) (by omega)
  simp only [h3.1,h3.2,cX,eQ,zk6,cC,cB,Int.toNat_natCast,zc6 i (show i < 4611686018427387904 by omega),h1,Option.bind_some]
  rcases h2 with ⟨rfl,hn⟩|⟨k,rfl,hk,e⟩
  ·exact ⟨false,rfl,(fun h=>nomatch h),fun ⟨x,hx,e⟩=>absurd e (hn x hx)⟩
  ·exact ⟨true,by rw [bT (by simp),bW rfl],(fun _=>⟨_,zd1 hk,e⟩),fun _=>rfl⟩) (by unfold zL2; simp)
 have hm:=zaw2 (P:=fun p:aK=>∃ x ∈ c.aF,x.aJ=p) (l:=v) (z:=aK.zero)
 rcases key with ⟨h1,h2⟩|⟨h1,h2⟩
 ·exact .inl ⟨h1,fun h=>h2 (hm.2 h)⟩
 ·exact .inr ⟨h1,hm.1 h2⟩
theorem zcz7 (c:bA) (hl:c.aF.length≤8) (ht:ValidT c.aC) (hnow:0≤c.now∧c.now≤1073741824) :
  zb9 (zS5 c) 0=some (.inr false)∧(¬ ∀ i,i < c.aF.length→(ProcV c.now c.aC (c.aF.getD i aG.zero)∧zcq9 c.now c.aC (c.aF.getD i aG.zero))∧(0 < i→ltP (c.aF.getD (i - 1) aG.zero).aJ (c.aF.getD i aG.zero).aJ)) ∨
  zb9 (zS5 c) 0=some (.inl ())∧∀ i,i < c.aF.length→(ProcV c.now c.aC (c.aF.getD i aG.zero)∧zcq9 c.now c.aC (c.aF.getD i aG.zero))∧(0 < i→ltP (c.aF.getD (i - 1) aG.zero).aJ (c.aF.getD i aG.zero).aJ) :=
 zar0 c.aF.length _ (fun i hi=>by
  unfold zS5
  have h3:0≤(i:Int)∧(i:Int) < (c.aF.length:Int):=by omega
  obtain ⟨b,h1,h2⟩:=zcz6 c (c.aF.getD i aG.zero) ht hnow
  simp only [h3.1,h3.2,cX,eQ,zk6,cC,cB,Int.toNat_natCast,zc6 i (show i < 4611686018427387904 by omega),h1,Option.bind_some]
  rw [gdp (by
   intro h
   simp only [bS,bX] at h
   rw [zi0 (by omega) (by omega)]; try omega)]
  cases b with
  | false=>exact ⟨false,rfl,(fun h=>nomatch h),fun h=>h2.2 h.1⟩
  | true =>
   simp only [cU,dR]
   by_cases c0:i=0
   ·subst c0
    exact ⟨true,rfl,(fun _=>⟨h2.1 rfl,fun h=>absurd h (by omega)⟩),fun _=>rfl⟩
   ·rw [zas2 i (by omega) (by omega)]
    simp only [show (0:Int) < (i:Int) by omega,cC,cJ,Int.toNat_natCast]
    by_cases c1:ltP (c.aF.getD (i - 1) aG.zero).aJ (c.aF.getD i aG.zero).aJ
    ·refine ⟨true,?_,(fun _=>⟨h2.1 rfl,fun _=>c1⟩),fun _=>rfl⟩
     rw [bT (by simp only [bX]; exact fun h=>(zaD8 _ _).1 h c1),bW rfl]
    ·refine ⟨false,?_,(fun h=>nomatch h),fun h=>absurd (h.2 (by omega)) c1⟩
     rw [bW (by simp only [bX]; exact (zaD8 _ _).2 c1)]; rfl) (by unfold zS5; simp)
theorem zbZ3 {l:List aG} (h:∀ i,i < l.length→0 < i→ltP (l.getD (i - 1) aG.zero).aJ (l.getD i aG.zero).aJ):l.Pairwise fun a b=>ltP a.aJ b.aJ:=by
 rw [dO]
 have g:∀ k,(hk:k < l.length)→l.getD k aG.zero=l[k]:=fun k hk=>by rw [bV,bY hk]; rfl
 have key:∀ d i,(hj:i+d+1 < l.length)→ltP (l.getD i aG.zero).aJ (l.getD (i+d+1) aG.zero).aJ:=by
  intro d
  induction d with
  | zero=>intro i hj; exact h (i+1) hj (by omega)
  | succ d ih =>
   intro i hj
   exact zae7 (ih i (by omega)) (h (i+(d+1)+1) hj (by omega))
 intro i j hi hj hij
 have:=key (j - i - 1) i (by omega)
 rw [show i+(j - i - 1)+1=j by omega,g i hi,g j hj] at this
 exact this
theorem zcg1 {l:List aG} (h:l.Pairwise fun a b=>ltP a.aJ b.aJ) {i j:Nat} (hj:j < l.length) (hij:i < j):ltP (l.getD i aG.zero).aJ (l.getD j aG.zero).aJ:=by
 have:=dO.1 h i j (by omega) hj hij
 rw [bV,bV,bY (by omega),bY hj]
 exact this
theorem zbQ9 (c:bA):∃ b,zF9 c=some b∧(b=true ↔ CenV c):=by
 unfold zF9
 by_cases c0:c.now < 0∨1073741824 < c.now
 ·refine ⟨false,?_,(fun h=>nomatch h),fun h=>by have:=h.now; omega⟩
  rcases c0 with h|h <;> simp [h]
 have c1:¬ c.now < 0:=fun h=>c0 (.inl h)
 have c2:¬ 1073741824 < c.now:=fun h=>c0 (.inr h)
 simp only [c1,c2,cK,fA,dF,cB,zai9,Option.bind_some,dR]
 cases hv:zaF3 c.aC with
 | false=>exact ⟨false,rfl,(fun h=>nomatch h),fun h=>by have:=(zU4 _).2 h.t; rw [hv] at this; cases this⟩
 | true =>
 have ht:=(zU4 _).1 hv
 by_cases c3:(8:Int) < (c.aF.length:Int)
 ·exact ⟨false,by simp [c3],(fun h=>nomatch h),fun h=>by have:=h.len; omega⟩
 simp only [c3,cK,cU,fA,bU,cA]
 have hl:c.aF.length≤8:=by omega
 rw [zaK9 ht.len ht.each,Option.bind_some]
 rcases zcr2 c hl (zw6 c.aC) (by have:=ht.aF; omega) with ⟨h1,h2⟩|⟨h1,h2⟩
 ·exact ⟨false,by rw [h1]; rfl,(fun h=>nomatch h),fun h=>absurd h.aF h2⟩
 rw [h1,Option.bind_some]
 show ∃ b,zab2 c ()=some b∧_
 unfold zab2
 rcases zcz7 c hl ht (by omega) with ⟨h3,h4⟩|⟨h3,h4⟩
 ·exact ⟨false,by rw [h3]; rfl,(fun h=>nomatch h),fun h=>absurd (fun i hi=>⟨⟨h.each _ (zd1 hi),h.quiet _ (zd1 hi)⟩,fun h0=>zcg1 h.asc hi (by omega)⟩) h4⟩
 refine ⟨true,by rw [h3]; rfl,fun _=>⟨by omega,ht,hl,fun x hx=>?_,zbZ3 fun i hi h0=>(h4 i hi).2 h0,h2,fun x hx=>?_⟩,fun _=>rfl⟩
 ·obtain ⟨i,hi,rfl⟩:=zy5 (z:=aG.zero) hx
  exact (h4 i hi).1.1
 ·obtain ⟨i,hi,rfl⟩:=zy5 (z:=aG.zero) hx
  exact (h4 i hi).1.2
theorem zbg2 {c:bA} (h:CenV c):zF9 c=some true:=by
 obtain ⟨b,h1,h2⟩:=zbQ9 c
 rw [h1,h2.2 h]
def fo (l:List aT) (x:aK):Option aD:=(l.find? fun w=>decide (w.aJ=x)).map (·.aN)
def zdd1:Option aD→aD×Bool
  | some a=>(a,true)
  | none=>(aD.zero,false)
theorem zaC2 (l:List aT) (x:aK):zaw1 l x=zdd1 (fo l x):=by
  unfold zaw1 fo
  cases l.find? fun w=>decide (w.aJ=x) <;> rfl
theorem zaH2 (w:aT) (l:List aT) (x:aK):fo (w :: l) x=if w.aJ=x then some w.aN else fo l x:=by
  unfold fo
  rw [List.find?_cons]
  by_cases c:w.aJ=x
  · rw [bW c,cF c]; rfl
  · rw [bT c,eX c]
theorem zaF6:∀ (l m:List aT) (x:aK),fo (l++m) x=(fo l x).or (fo m x)
  | [],m,x=>rfl
  | w :: l,m,x=>by
    rw [List.cons_append,zaH2,zaH2,zaF6 l m x]
    split <;> rfl
theorem zcG0:∀ (l:List aT) (x:aK),fo (l.map bump) x=fo l x
  | [],_=>rfl
  | w :: l,x=>by rw [eD,zaH2,zaH2,zcG0 l x]; rfl
theorem zbZ4 {p x:aK} (h:x≠p):∀ l:List aT,fo (rmL l p) x=fo l x
  | []=>rfl
  | w :: l=>by
    rw [zda8,zaH2]
    by_cases c:w.aJ=p
    · rw [bW c,bT (by rw [c]; exact fun e=>h e.symm),zbZ4 h l]
    · rw [bT c,zaH2,zbZ4 h l]
structure Eff (q q':aA) (x:aK):Prop where
  st:(getH q'.aQ x=getH q.aQ x∧zp7 q' x=zp7 q x)∨((zp7 q x).2=true∧(zp7 q' x).2=false∧getH q'.aQ x=(zp7 q x).1)
  pr:∀ w' ∈ q'.aS,w'.aJ=x→∃ w ∈ q.aS,w.aJ=x∧w.bC=w'.bC
theorem Eff.refl (q:aA) (x:aK):Eff q q x:=⟨.inl ⟨rfl,rfl⟩,fun w hw e=>⟨w,hw,e,rfl⟩⟩
theorem Eff.trans {a b c:aA} {x:aK} (h:Eff a b x) (k:Eff b c x):Eff a c x:=by
  refine ⟨?_,fun w hw e=>?_⟩
  · rcases h.st with ⟨h1,h2⟩|⟨h1,h2,h3⟩
    · rcases k.st with ⟨k1,k2⟩|⟨k1,k2,k3⟩
      · exact .inl ⟨k1.trans h1,k2.trans h2⟩
      · rw [h2] at k1 k3; exact .inr ⟨k1,k2,k3⟩
    · rcases k.st with ⟨k1,k2⟩|⟨k1,k2,k3⟩
      · exact .inr ⟨h1,by rw [k2]; exact h2,k1.trans h3⟩
      · rw [h2] at k1; cases k1
  · obtain ⟨w1,m1,e1,p1⟩:=k.pr w hw e
    obtain ⟨w2,m2,e2,p2⟩:=h.pr w1 m1 e1
    exact ⟨w2,m2,e2,p2.trans p1⟩
theorem zdm9 {q:aA} (hs:SoundP q) (hc:canQ q=true) (x:aK):Eff q (popQ q) x:=by
  obtain ⟨h1,h2⟩:=zbF7 hc
  have hn:=hs.nd
  rw [h1] at hn
  have hq:zp7 q x=zdd1 (fo (ordQ q) x):=zaC2 _ _
  have hp:zp7 (popQ q) x=zdd1 (fo (ordQ (popQ q)) x):=zaC2 _ _
  rw [h1,zaH2] at hq
  refine ⟨?_,?_⟩
  · by_cases c:(zI8 q).1.aJ=x
    · rw [bW c] at hq
      right
      rw [hq,h2,← c,zaw3]
      exact ⟨rfl,zao0.2 (zdm1 hn),rfl⟩
    · rw [bT c,← hp] at hq
      left
      rw [h2,zE3 (fun e=>c e.symm)]
      exact ⟨rfl,hq.symm⟩
  · intro w hw e
    refine ⟨w,?_,e,rfl⟩
    cases zce5 hc with
    | con w2 cs he hd hr hp=>rw [hp] at hw; exact hw
    | wait w2 ws hcc he hd hr hp=>rw [hp] at hw; rw [he]; exact .tail _ hw
theorem zcG1 {q:aA} (hs:SoundP q) (x:aK):Eff q (advS q) x :=
  (zbi2 (P:=fun y=>SoundP y∧Eff q y x) (fun y hc ⟨h1,h2⟩=>⟨h1.pop hc,h2.trans (zdm9 h1 hc x)⟩) q ⟨hs,Eff.refl q x⟩).2
theorem zas7 {q:aA} (hs:SoundP q) (x:aK):Eff q (zD8 q).1 x:=by
  rw [zE5]
  exact ⟨(zcG1 hs x).st,(zcG1 hs x).pr⟩
theorem zcr3 {q:aA} {p x:aK} (h:x≠p):Eff q (zaw4 q p) x:=by
  refine ⟨.inl ⟨rfl,?_⟩,fun w hw e=>⟨w,(zaG9.1 hw).1,e,rfl⟩⟩
  show zaw1 (rmL q.aO p++rmL q.aS p) x=zaw1 (q.aO++q.aS) x
  rw [zaC2,zaC2,zaF6,zaF6,zbZ4 h,zbZ4 h]
theorem zcz8 {q:aA} {p x:aK} (h:x≠p) (a:aD):Eff q (zaz6 q p a) x :=
  ⟨.inl ⟨zE3 h _ _,rfl⟩,fun w hw e=>⟨w,hw,e,rfl⟩⟩
theorem zdn0 {q:aA} {p x:aK} (h:x≠p):Eff q (del q p) x:=by
  refine ⟨.inl ⟨zU3 h _,?_⟩,fun w hw e=>⟨w,(zaG9.1 hw).1,e,rfl⟩⟩
  show zaw1 (rmL q.aO p++rmL q.aS p) x=zaw1 (q.aO++q.aS) x
  rw [zaC2,zaC2,zaF6,zaF6,zbZ4 h,zbZ4 h]
theorem zcz9 {q:aA} {p x:aK} (h:x≠p) (a:aD):Eff q (claimC q p a) x:=by
  refine ⟨.inl ⟨rfl,?_⟩,fun w hw e=>⟨w,hw,e,rfl⟩⟩
  show zaw1 ((q.aO++[_])++q.aS) x=zaw1 (q.aO++q.aS) x
  rw [zaC2,zaC2,zaF6,zaF6,zaF6,zaH2,bT (fun e=>h e.symm)]
  cases fo q.aO x <;> rfl
theorem zcA0 {q:aA} {p x:aK} (h:x≠p) (a:aD) (pr:Int):Eff q (claimW q p a pr) x:=by
  refine ⟨.inl ⟨rfl,?_⟩,fun w hw e=>?_⟩
  · show zaw1 (q.aO++(q.aS.take _++_ :: (q.aS.drop _).map bump)) x=zaw1 (q.aO++q.aS) x
    rw [zaC2,zaC2,zaF6,zaF6,zaF6,zaH2,bT (fun e=>h e.symm),zcG0,← zaF6,eC]
  · rcases cI.1 (show w ∈ q.aS.take _++_ :: (q.aS.drop _).map bump from hw) with hw|hw
    · exact ⟨w,fJ hw,e,rfl⟩
    · rcases cE.1 hw with rfl|hw
      · exact absurd e.symm h
      · obtain ⟨y,hy,rfl⟩:=cH.1 hw
        exact ⟨y,gM hy,e,rfl⟩
theorem zbZ5 {r:aI} {a:aD} (h:za4 r a=true):zH8 r aD.zero a=a:=by
  have hz:zc2 r aD.zero=true:=(perm_iff r _).2 (.inl ⟨zbe3 h,rfl⟩)
  unfold zH8
  rw [hz,zz5 h]
  rfl
theorem zcA1 {q:aA} {p:aK} {a:aD} {pr:Int} (e0:(zw4 q p a pr).2.2=0) :
    (covA q.aB (getH q.aQ p) a=true∧(zw4 q p a pr).1=q)∨(covA q.aB (getH q.aQ p) a=false ∧
      ((zp7 (zw4 q p a pr).1 p).2=false∧getH (zw4 q p a pr).1.aQ p=zH8 q.aB (getH q.aQ p) a ∨
       (zp7 (zw4 q p a pr).1 p).2=true∧getH (zw4 q p a pr).1.aQ p=getH q.aQ p∧(zp7 (zw4 q p a pr).1 p).1=zH8 q.aB (getH q.aQ p) a∧∀ w ∈ (zw4 q p a pr).1.aS,w.aJ=p→w.bC=pr)):=by
  obtain ⟨hs,_,_,hfit,hw,hcase⟩:=zaT7 e0
  have fin:∀ q1,SoundP q1→zw4 q p a pr=zD8 q1→getH q1.aQ p=getH q.aQ p→zp7 q1 p=(zH8 q.aB (getH q.aQ p) a,true)→(∀ w ∈ q1.aS,w.aJ=p→w.bC=pr) →
      ((zp7 (zw4 q p a pr).1 p).2=false∧getH (zw4 q p a pr).1.aQ p=zH8 q.aB (getH q.aQ p) a ∨
       (zp7 (zw4 q p a pr).1 p).2=true∧getH (zw4 q p a pr).1.aQ p=getH q.aQ p∧(zp7 (zw4 q p a pr).1 p).1=zH8 q.aB (getH q.aQ p) a∧∀ w ∈ (zw4 q p a pr).1.aS,w.aJ=p→w.bC=pr):=by
    intro q1 h1 e h2 h3 h4
    have k:=zas7 h1 p
    rw [e]
    rcases k.st with ⟨k1,k2⟩|⟨k1,k2,k3⟩
    · right
      rw [k1,k2,h3]
      refine ⟨rfl,h2,rfl,fun w hw ew=>?_⟩
      obtain ⟨w2,m2,e2,p2⟩:=k.pr w hw ew
      rw [← p2]; exact h4 w2 m2 e2
    · left
      rw [h3] at k3
      exact ⟨k2,k3⟩
  rw [zao0] at hw
  rcases hcase with ⟨c,e⟩|⟨c,hz,e,h1⟩|⟨c,hz,_,e,h1⟩
  · exact .inl ⟨c,by rw [e]⟩
  · refine .inr ⟨c,fin _ h1 e rfl ?_ fun w hw2 ew=>absurd ew (hw w (cV _ hw2))⟩
    have:=zbB9 (q:=claimC q p a) h1.nd (w:=⟨p,zH8 q.aB (getH q.aQ p) a,0,0⟩) (by
      show _ ∈ (q.aO++[_])++q.aS
      simp)
    exact this
  · refine .inr ⟨c,fin _ h1 e rfl ?_ fun w hw2 ew=>?_⟩
    · have:=zbB9 (q:=claimW q p a pr) h1.nd (w:=⟨p,a,pr,0⟩) (by
        show _ ∈ q.aO++zaT2 q.aS _ _
        unfold zaT2
        simp)
      rw [hz,zbZ5 hfit]
      exact this
    · rcases cI.1 (show w ∈ q.aS.take _++_ :: (q.aS.drop _).map bump from hw2) with hw3|hw3
      · exact absurd ew (hw w (cV _ (fJ hw3)))
      · rcases cE.1 hw3 with rfl|hw3
        · rfl
        · obtain ⟨y,hy,rfl⟩:=cH.1 hw3
          exact absurd ew (hw y (cV _ (gM hy)))
theorem zcA2 {q:aA} {p:aK} (h:zg7 q=true) (hw:(zp7 q p).2=true):(zC6 q p).2.2=0∧(∀ x,covA q.aB (getH (zC6 q p).1.aQ x) (getH q.aQ x)=true)∧getH (zC6 q p).1.aQ p=getH q.aQ p∧(zp7 (zC6 q p).1 p).2=false:=by
  have e0:(zC6 q p).2.2=0:=by unfold zC6; rw [bT (by rw [h]; decide),bT (by rw [hw]; decide)]; rfl
  obtain ⟨_,_,_,e1,e2⟩:=zaz7 e0
  have hn:∀ w ∈ ordQ (zaw4 q p),w.aJ≠p:=fun w hw=>by
    unfold ordQ zaw4 at hw
    simp only [cI,zaG9] at hw
    rcases hw with hw|hw
    · exact hw.2
    · exact hw.2
  have hs:=zbX6 hn
  refine ⟨e0,fun x=>?_,?_,?_⟩
  · rw [e1,zE5]; exact zaK5 e2 x
  · rw [e1,zE5]; exact hs.1
  · rw [e1,zE5]; exact zao0.2 hs.2
theorem zcO2 {q:aA} {p:aK} {a:aD} (h:zg7 q=true) (hz:getH q.aQ p≠aD.zero) (hw:(zp7 q p).2=false) (hc:covA q.aB (getH q.aQ p) a=true) :
    (zD9 q p a).2.2=0∧(∀ x,x≠p→covA q.aB (getH (zD9 q p a).1.aQ x) (getH q.aQ x)=true)∧getH (zD9 q p a).1.aQ p=a∧(zp7 (zD9 q p a).1 p).2=false:=by
  have e0:(zD9 q p a).2.2=0:=by
    unfold zD9
    rw [bT (by rw [h]; decide),bT hz,bT (by rw [hw]; decide),bT (by rw [hc]; decide)]
    split <;> rfl
  obtain ⟨hs,_,_,_,_,hh⟩:=zaH8 e0
  rcases hh with ⟨e1,e2⟩|⟨e1,e2,e3⟩
  · rw [e2]
    exact ⟨rfl,fun x _=>zas5 (zas4 hs.hv x),e1,hw⟩
  · have hn:∀ w ∈ ordQ (zaz6 q p a),w.aJ≠p:=zao0.1 hw
    have hst:=zbX6 hn
    refine ⟨e0,fun x hx=>?_,?_,?_⟩
    · rw [e2,zE5]
      have:=zaK5 e3 x
      unfold zaz6 at this
      rw [zE3 hx] at this
      exact this
    · rw [e2,zE5]
      show getH (advS (zaz6 q p a)).aQ p=a
      rw [hst.1]; exact zaw3 _ _ _
    · rw [e2,zE5]; exact zao0.2 hst.2
structure Kept (p:aK) (t t':List aA):Prop where
  v:ValidT t'
  len:t'.length=t.length
  res:∀ i,i < t.length→(t'.getD i aA.zero).aB=(t.getD i aA.zero).aB
  cov:∀ i,i < t.length→∀ x,x≠p→covA (t.getD i aA.zero).aB (getH (t'.getD i aA.zero).aQ x) (getH (t.getD i aA.zero).aQ x)=true
  eff:∀ i,i < t.length→∀ x,x≠p→Eff (t.getD i aA.zero) (t'.getD i aA.zero) x
theorem zY0 {α:Type} (l:List α) (i j:Nat) (x z:α) (h:i≠j):(l.set i x).getD j z=l.getD j z:=by
  rw [bV,bV,List.getElem?_set_ne h]
theorem zaA6 {p:aK} {t:List aA} (h:ValidT t):Kept p t t :=
  ⟨h,rfl,fun _ _=>rfl,fun i hi x _=>zas5 (zas4 ((zr8 _).1 (h.each _ (zd1 (z:=aA.zero) hi))).1.hv x),fun _ _ _ _=>Eff.refl _ _⟩
theorem zbR0 {p:aK} {t:List aA} (h:ValidT t) {i:Nat} (hi:i < t.length) {q:aA} (hv:ValidT (t.set i q)) (hr:q.aB=(t.getD i aA.zero).aB)
    (hc:∀ x,x≠p→covA (t.getD i aA.zero).aB (getH q.aQ x) (getH (t.getD i aA.zero).aQ x)=true) (hE:∀ x,x≠p→Eff (t.getD i aA.zero) q x):Kept p t (t.set i q):=by
  have k:=zaA6 (p:=p) h
  refine ⟨hv,dQ,fun j hj=>?_,fun j hj x hx=>?_,fun j hj x hx=>?_⟩
  · by_cases e:i=j
    · subst e; rw [zm9 t i q _ hi]; exact hr
    · rw [zY0 t i j q _ e]
  · by_cases e:i=j
    · subst e; rw [zm9 t i q _ hi]; exact hc x hx
    · rw [zY0 t i j q _ e]; exact k.cov j hj x hx
  · by_cases e:i=j
    · subst e; rw [zm9 t i q _ hi]; exact hE x hx
    · rw [zY0 t i j q _ e]; exact k.eff j hj x hx
theorem Kept.trans {p:aK} {a b c:List aA} (h:Kept p a b) (k:Kept p b c):Kept p a c :=
  ⟨k.v,k.len.trans h.len,fun i hi=>(k.res i (by rw [h.len]; exact hi)).trans (h.res i hi),fun i hi x hx=>by
    have h1:=k.cov i (by rw [h.len]; exact hi) x hx
    rw [h.res i hi] at h1
    exact zbp2 h1 (h.cov i hi x hx),fun i hi x hx=>(h.eff i hi x hx).trans (k.eff i (by rw [h.len]; exact hi) x hx)⟩
theorem Kept.find {p:aK} {t t':List aA} (h:ValidT t) (k:Kept p t t') {i:Nat} (hi:i < t.length):zw2 t' (t.getD i aA.zero).aB.name=i:=by
  have:=zaK7 k.v.asc (i:=i) (by rw [k.len]; exact hi)
  rwa [k.res i hi] at this
theorem zcA3 {t:List aA} (h:ValidT t) {i:Nat} (hi:i < t.length) {p:aK} (hw:(zp7 (t.getD i aA.zero) p).2=true):∃ q ev,zaH0 t p (t.getD i aA.zero).aB.name=(t.set i q,ev,0)∧ev.length≤20∧Kept p t (t.set i q) ∧
    getH q.aQ p=getH (t.getD i aA.zero).aQ p∧(zp7 q p).2=false∧q.aB=(t.getD i aA.zero).aB:=by
  have hq:=h.each _ (zd1 (z:=aA.zero) hi)
  obtain ⟨e0,e1,e2,e3⟩:=zcA2 hq hw
  have hf:=zaK7 h.asc hi
  have hs:=zam1 hq (.cancel p e0)
  have e:zaH0 t p (t.getD i aA.zero).aB.name=(t.set i (zC6 (t.getD i aA.zero) p).1,[]++zam0 (t.getD i aA.zero).aB.name (zC6 (t.getD i aA.zero) p).2.1,0):=by
    unfold zaH0 atT putT
    rw [bT (by rw [(zU4 t).2 h]; decide),hf,bT (by omega)]
    simp only [Int.toNat_natCast,e0,cB]
    rw [zaU2]
  have hv:ValidT (t.set i (zC6 (t.getD i aA.zero) p).1):=by
    have:=(zcz0 (t:=t) (p:=p) (nm:=(t.getD i aA.zero).aB.name) (by rw [e]))
    obtain ⟨_,_,_,_,hv⟩:=this
    rwa [e] at hv
  refine ⟨_,_,e,?_,zbR0 h hi hv hs.2 (fun x _=>e1 x) fun x hx=>?_,e2,e3,hs.2⟩
  · have:=(zbl6 (t.getD i aA.zero) p).2.2.2
    rw [List.nil_append,zaE4]; omega
  · obtain ⟨_,_,_,ec,es⟩:=zaz7 e0
    rw [ec]; exact (zcr3 hx).trans (zas7 es x)
theorem zbz0 {t:List aA} (h:ValidT t) {i:Nat} (hi:i < t.length) {p:aK} {a:aD} (hz:getH (t.getD i aA.zero).aQ p≠aD.zero) (hw:(zp7 (t.getD i aA.zero) p).2=false) (hc:covA (t.getD i aA.zero).aB (getH (t.getD i aA.zero).aQ p) a=true) :
    ∃ q ev,zaA5 t p ⟨(t.getD i aA.zero).aB.name,a⟩=(t.set i q,ev,0)∧ev.length≤20∧Kept p t (t.set i q)∧getH q.aQ p=a∧(zp7 q p).2=false∧q.aB=(t.getD i aA.zero).aB:=by
  have hq:=h.each _ (zd1 (z:=aA.zero) hi)
  obtain ⟨e0,e1,e2,e3⟩:=zcO2 hq hz hw hc
  have hf:=zaK7 h.asc hi
  have hs:=zam1 hq (.lower p a e0)
  have e:zaA5 t p ⟨(t.getD i aA.zero).aB.name,a⟩=(t.set i (zD9 (t.getD i aA.zero) p a).1,(if getH (t.getD i aA.zero).aQ p=a then [] else [zcF8 p (t.getD i aA.zero).aB.name a])++zam0 (t.getD i aA.zero).aB.name (zD9 (t.getD i aA.zero) p a).2.1,0):=by
    unfold zaA5 atT putT
    rw [bT (by rw [(zU4 t).2 h]; decide)]
    simp only [hf,Int.toNat_natCast,e0,cB,show ¬ (i:Int) < 0 by omega,cA]
    rw [zaU2]
  have hv:ValidT (t.set i (zD9 (t.getD i aA.zero) p a).1):=by
    have:=(zcN2 (t:=t) (p:=p) (a:=⟨(t.getD i aA.zero).aB.name,a⟩) (by rw [e]))
    obtain ⟨_,_,_,_,hv⟩:=this
    rwa [e] at hv
  refine ⟨_,_,e,?_,zbR0 h hi hv hs.2 e1 fun x hx=>?_,e2,e3,hs.2⟩
  · have:=(zbt3 (t.getD i aA.zero) p a).2.2.2
    rw [bZ,zaE4]
    have:(if getH (t.getD i aA.zero).aQ p=a then ([]:List bJ) else [zcF8 p (t.getD i aA.zero).aB.name a]).length≤1:=by split <;> simp
    omega
  · obtain ⟨_,_,_,_,_,hh⟩:=zaH8 e0
    rcases hh with ⟨_,el⟩|⟨_,el,es⟩
    · rw [el]; exact Eff.refl _ _
    · rw [el]; exact (zcz8 hx a).trans (zas7 es x)
def zaU5 (w:aX) (t:List aA) (ev:List bJ):aX:=⟨⟨w.c.now,t,w.c.aF⟩,ev⟩
theorem zbi8 (t:List aA) (ev:List bJ) (w:aX) (h:w.ev.length+ev.length≤4294967296):zc4 t ev w=some (w.c.now,t,w.c.aF,w.ev++ev):=by
  unfold zc4
  rw [gdp h]
theorem zcr4 (x:aG) {w:aX} (h:ValidT w.c.aC) {i:Nat} (hi:i < w.c.aC.length) (he:x.bB.aH.length≤1000) (hev:w.ev.length≤1000000)
    (hc:covA (w.c.aC.getD i aA.zero).aB (getH (w.c.aC.getD i aA.zero).aQ x.aJ) (zh0 x.bB.aH (w.c.aC.getD i aA.zero).aB.name)=true) :
    ∃ q ev,zv2 x (w.c.aC.getD i aA.zero).aB.name w=some (zaU5 w (w.c.aC.set i q) (w.ev++ev))∧ev.length≤40∧Kept x.aJ w.c.aC (w.c.aC.set i q) ∧
      getH q.aQ x.aJ=zh0 x.bB.aH (w.c.aC.getD i aA.zero).aB.name∧(zp7 q x.aJ).2=false∧q.aB=(w.c.aC.getD i aA.zero).aB:=by
  obtain ⟨hl,hs⟩:=h.lens'
  have h4:=zaO3 hs hi
  have hf:=zaK7 h.asc hi
  have k1:∀ (t1:List aA) (ev1:List bJ),Kept x.aJ w.c.aC t1→ev1.length≤20→getH (t1.getD i aA.zero).aQ x.aJ=getH (w.c.aC.getD i aA.zero).aQ x.aJ→(zp7 (t1.getD i aA.zero) x.aJ).2=false →
      (∃ q1,t1=w.c.aC.set i q1)→∃ q ev,zH3 x (w.c.aC.getD i aA.zero).aB.name (i:Int) (zaU5 w t1 (w.ev++ev1))=some (zaU5 w (w.c.aC.set i q) (w.ev++ev))∧ev.length≤40∧Kept x.aJ w.c.aC (w.c.aC.set i q) ∧
      getH q.aQ x.aJ=zh0 x.bB.aH (w.c.aC.getD i aA.zero).aB.name∧(zp7 q x.aJ).2=false∧q.aB=(w.c.aC.getD i aA.zero).aB:=by
    intro t1 ev1 hk hev1 hh hw ⟨q1,hq1⟩
    have hi1:i < t1.length:=by rw [hk.len]; exact hi
    have h5:=zaO3 hk.v.lens hi1
    have hr:=hk.res i hi
    have hg:t1.getD i aA.zero=q1:=by rw [hq1]; exact zm9 _ _ _ _ hi
    unfold zH3
    rw [zX9 _ _ (by omega),Option.bind_some]
    show ∃ q ev,gd (0≤(i:Int)∧(i:Int) < (t1.length:Int)) ((zi6 (t1.getD (i:Int).toNat aA.zero) x.aJ).bind _)=_∧_
    rw [gdp (by omega)]
    simp only [Int.toNat_natCast]
    rw [zD7 _ _ (by omega),Option.bind_some]
    by_cases e:getH (t1.getD i aA.zero).aQ x.aJ=zh0 x.bB.aH (w.c.aC.getD i aA.zero).aB.name
    · rw [bT (by simp [e,-List.getD_eq_getElem?_getD])]
      refine ⟨q1,ev1,by rw [← hq1],by omega,hq1 ▸ hk,by rw [← hg]; exact e,by rw [← hg]; exact hw,by rw [← hg]; exact hr⟩
    · rw [bW (by simp [e,-List.getD_eq_getElem?_getD])]
      have hz:getH (t1.getD i aA.zero).aQ x.aJ≠aD.zero:=fun z=>by
        rw [hh] at z e
        rw [z] at hc
        rcases ((zQ4 _ _ _).1 hc).2.2 with h6|h6
        · exact e (z.trans h6.symm)
        · exact h6.1 rfl
      obtain ⟨q,ev,r1,r2,r3,r4,r5,r6⟩:=zbz0 hk.v hi1 (p:=x.aJ) (a:=zh0 x.bB.aH (w.c.aC.getD i aA.zero).aB.name) hz hw (by rw [hr,hh]; exact hc)
      rw [hr] at r1 r6
      rw [zaL4,Option.bind_some]
      show ∃ q ev,(zc4 (zaA5 t1 x.aJ ⟨_,_⟩).1 (zaA5 t1 x.aJ ⟨_,_⟩).2.1 (zaU5 w t1 (w.ev++ev1))).bind _=_∧_
      rw [r1,zbi8 _ _ _ (by show (w.ev++ev1).length+ev.length≤_; rw [bZ]; omega),Option.bind_some]
      have es:t1.set i q=w.c.aC.set i q:=by rw [hq1,fX]
      refine ⟨q,ev1++ev,?_,by rw [bZ]; omega,es ▸ hk.trans r3,r4,r5,r6⟩
      show some (zaU5 w (t1.set i q) ((w.ev++ev1)++ev))=_
      rw [es,dB]
  unfold zv2
  rw [zS0 _ _ (by omega),Option.bind_some,hf,gdp (by omega)]
  simp only [Int.toNat_natCast]
  rw [zP9 _ _ (by omega) (by omega),Option.bind_some]
  cases hw:(zp7 (w.c.aC.getD i aA.zero) x.aJ).2 with
  | true =>
    rw [bW rfl]
    obtain ⟨q,ev,r1,r2,r3,r4,r5,r6⟩:=zcA3 h hi hw
    rw [zbE1,Option.bind_some,r1,zbi8 _ _ _ (by simp only; omega),Option.bind_some]
    have hg:(w.c.aC.set i q).getD i aA.zero=q:=zm9 _ _ _ _ hi
    exact k1 (w.c.aC.set i q) ev r3 r2 (by rw [hg]; exact r4) (by rw [hg]; exact r5) ⟨q,rfl⟩
  | false =>
    rw [bT (by decide)]
    have:=k1 w.c.aC [] (zaA6 h) (by simp) rfl hw ⟨_,(zaC1 _ _ aA.zero hi).symm⟩
    rw [dV] at this
    exact this
end Ab
end Go.Proofs.YtfkjffmjkbkmhaaGreatDoor
