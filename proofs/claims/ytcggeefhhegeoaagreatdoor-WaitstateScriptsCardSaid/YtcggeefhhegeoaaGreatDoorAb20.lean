import Derived.Test.YtcggeefhhegeoaaGreatDoorAb19
namespace Go.Proofs.YtcggeefhhegeoaaGreatDoor
namespace Ab
set_option linter.unusedSimpArgs false
theorem zas9 {a b:ByteArray}:a.toList=b.toList ↔ a=b:=by
 constructor
 ·intro h
  rw [ByteArray.toList_eq,ByteArray.toList_eq] at h
  cases a; cases b
  simp only [ByteArray.mk.injEq]
  exact Array.toList_inj.1 (by simpa using h)
 ·intro h; rw [h]
def eI (k:IntKind) (x:Int):List A:=[A.int k x]
def eB (x:Bool):List A:=[A.bool x]
def eS (x:ByteArray):List A:=[A.str x]
def eL {α:Type} (f:α→List A) (l:List α):List A:=[A.sl (l.map f)]
@[go_sem] theorem zdy4 (a:A):sub [a] 0 1=[a]:=rfl
@[go_sem] theorem zdy5 (a b:A):upd [a] 0 [b]=[b]:=rfl
@[go_sem] theorem zdw5 {α β:Type} (f:α→β) (l:List α) (n:Nat):(l.map f).take n=(l.take n).map f:=List.map_take.symm
@[go_sem] theorem zdw6 {α β:Type} (f:α→β) (l:List α) (n:Nat):(l.map f).drop n=(l.drop n).map f:=List.map_drop.symm
@[go_sem] theorem zdq3 {α β:Type} (f:α→β) (l m:List α):l.map f++m.map f=(l++m).map f:=List.map_append.symm
attribute [go_sem] List.take_of_length_le
@[go_sem] theorem zdf3 (c:List A) (cs:List (List A)):zao6 (c :: cs) ↔ zo7 c=true∧zao6 cs:=by
 constructor
 ·intro h
  refine ⟨?_,fun d hd=>h d (.tail _ hd)⟩
  have:=h c (.head _)
  clear h
  induction c with
  | nil=>rfl
  | cons a c ih=>simp only [zo7,Bool.and_eq_true]; exact ⟨this a (.head _),ih fun b hb=>this b (.tail _ hb)⟩
 ·rintro ⟨h1,h2⟩ d hd
  rcases List.mem_cons.1 hd with rfl|hd
  ·exact zas7 h1
  ·exact h2 d hd
@[go_sem] theorem zdu2:maxLen=9223372036854775807:=rfl
@[go_sem] theorem eI.getD (k:IntKind) (l:List Int) (i:Nat):(l.map (eI k)).getD i [A.int k 0]=[A.int k (l.getD i 0)]:=by
 simp only [List.getD_eq_getElem?_getD,List.getElem?_map]; cases l[i]? <;> rfl
@[go_sem] theorem eI.snoc (k:IntKind) (l:List Int) (x:Int):l.map (eI k)++[[A.int k x]]=(l++[x]).map (eI k):=by simp [eI]
@[go_sem] theorem eI.allLen (k:IntKind) (l:List Int):zP2 1 (l.map (eI k)):=by intro c hc; obtain ⟨x,_,rfl⟩:=List.mem_map.1 hc; rfl
@[go_sem] theorem eI.pureRows (k:IntKind) (l:List Int):zao6 (l.map (eI k)):=by intro c hc; obtain ⟨x,_,rfl⟩:=List.mem_map.1 hc; intro a ha; simp [eI] at ha; subst ha; rfl
@[go_sem] theorem eI.pureEs (k:IntKind) (l:List Int):pureEs (l.map (eI k))=true:=by induction l with
 | nil=>rfl
 | cons a l ih=>simpa [Ab.pureEs,zo7,A.pure1,eI] using ih
@[go_sem] theorem eB.getD (l:List Bool) (i:Nat):(l.map eB).getD i [A.bool false]=[A.bool (l.getD i false)]:=by
 simp only [List.getD_eq_getElem?_getD,List.getElem?_map]; cases l[i]? <;> rfl
@[go_sem] theorem eB.snoc (l:List Bool) (x:Bool):l.map eB++[[A.bool x]]=(l++[x]).map eB:=by simp [eB]
@[go_sem] theorem eB.set (l:List Bool) (i:Nat) (x:Bool):(l.map eB).set i [A.bool x]=(l.set i x).map eB:=by simp [List.map_set,eB]
@[go_sem] theorem eB.rep (n:Nat) (x:Bool):List.replicate n [A.bool x]=(List.replicate n x).map eB:=by simp [eB]
@[go_sem] theorem eB.pureRows (l:List Bool):zao6 (l.map eB):=by intro c hc; obtain ⟨x,_,rfl⟩:=List.mem_map.1 hc; intro a ha; simp [eB] at ha; subst ha; rfl
@[go_sem] theorem eB.pureEs (l:List Bool):pureEs (l.map eB)=true:=by induction l with
 | nil=>rfl
 | cons a l ih=>simpa [Ab.pureEs,zo7,A.pure1,eB] using ih
@[go_sem] theorem eS.getD (l:List ByteArray) (i:Nat):(l.map eS).getD i [A.str ⟨#[]⟩]=[A.str (l.getD i ⟨#[]⟩)]:=by
 simp only [List.getD_eq_getElem?_getD,List.getElem?_map]; cases l[i]? <;> rfl
@[go_sem] theorem eS.snoc (l:List ByteArray) (x:ByteArray):l.map eS++[[A.str x]]=(l++[x]).map eS:=by simp [eS]
@[go_sem] theorem eS.set (l:List ByteArray) (i:Nat) (x:ByteArray):(l.map eS).set i [A.str x]=(l.set i x).map eS:=by simp [List.map_set,eS]
@[go_sem] theorem eS.pureRows (l:List ByteArray):zao6 (l.map eS):=by intro c hc; obtain ⟨x,_,rfl⟩:=List.mem_map.1 hc; intro a ha; simp [eS] at ha; subst ha; rfl
@[go_sem] theorem eS.pureEs (l:List ByteArray):pureEs (l.map eS)=true:=by induction l with
 | nil=>rfl
 | cons a l ih=>simpa [Ab.pureEs,zo7,A.pure1,eS] using ih
@[go_sem] theorem eL.getD {α:Type} (f:α→List A) (l:List (List α)) (i:Nat):(l.map (eL f)).getD i [A.sl (([]:List α).map f)]=[A.sl ((l.getD i []).map f)]:=by
 simp only [List.getD_eq_getElem?_getD,List.getElem?_map]; cases l[i]? <;> rfl
@[go_sem] theorem eL.getD0 {α:Type} (f:α→List A) (l:List (List α)) (i:Nat):(l.map (eL f)).getD i [A.sl []]=[A.sl ((l.getD i []).map f)]:=eL.getD f l i
@[ext] structure Arr (α:Type) (n:Nat) where
 l:List α
 h:l.length=n
instance {α:Type} [DecidableEq α] {n:Nat}:DecidableEq (Arr α n):=fun a b=>decidable_of_iff (a.l=b.l) (by rw [Arr.ext_iff])
def Arr.get {α:Type} {n:Nat} (a:Arr α n) (i:Nat) (z:α):α:=a.l.getD (zL5 i n) z
def Arr.put {α:Type} {n:Nat} (a:Arr α n) (i:Nat) (x:α):Arr α n:=⟨a.l.set (zL5 i n) x,by simp [a.h]⟩
def Arr.rep {α:Type} (n:Nat) (x:α):Arr α n:=⟨List.replicate n x,by simp⟩
def Arr.enc {α:Type} {n:Nat} (f:α→List A) (a:Arr α n):List A:=(a.l.map f).flatten
theorem zcl6 {α:Type} (f:α→List A) (sz:Nat) (hf:∀ x,(f x).length=sz):∀ l:List α,(l.map f).flatten.length=l.length * sz
 | []=>by simp
 | a :: l=>by simp only [List.map_cons,List.flatten_cons,List.length_append,hf,zcl6 f sz hf l,List.length_cons]; rw [Nat.add_mul]; omega
theorem zcE0 {α:Type} (f:α→List A) (sz:Nat) (hf:∀ x,(f x).length=sz) (z:α):∀ (l:List α) (i:Nat),i < l.length→sub (l.map f).flatten (i * sz) sz=f (l.getD i z)
 | [],i,h=>by simp at h
 | a :: l,0,_=>by simp [sub,hf a]
 | a :: l,i+1,h=>by
  have:=zcE0 f sz hf z l i (by simpa using h)
  simp only [sub,List.map_cons,List.flatten_cons,List.getD_cons_succ] at this ⊢
  rw [← this,List.drop_append,List.drop_eq_nil_of_le (by rw [hf,Nat.add_mul]; omega),hf,List.nil_append]
  congr 2
  rw [Nat.add_mul]; omega
theorem zcl7 {α:Type} (f:α→List A) (sz:Nat) (hf:∀ x,(f x).length=sz) (x:α):∀ (l:List α) (i:Nat),i < l.length→upd (l.map f).flatten (i * sz) (f x)=((l.set i x).map f).flatten
 | [],i,h=>by simp at h
 | a :: l,0,_=>by simp [upd,hf]
 | a :: l,i+1,h=>by
  have:=zcl7 f sz hf x l i (by simpa using h)
  simp only [upd,List.map_cons,List.flatten_cons,List.set_cons_succ] at this ⊢
  rw [← this]
  have e:(i+1) * sz=(f a).length+i * sz:=by rw [hf,Nat.add_mul]; omega
  rw [e,List.take_length_add_append,Nat.add_assoc,List.drop_length_add_append]
  simp [List.append_assoc]
@[go_sem] theorem Arr.enc_len {α:Type} {n:Nat} (f:α→List A) (a:Arr α n) (sz:Nat) (hf:∀ x,(f x).length=sz):(Arr.enc f a).length=n * sz:=by
 rw [Arr.enc,zcl6 f sz hf,a.h]
theorem zaH4 {i n:Nat} (h:0 < n):zL5 i n < n:=by unfold zL5; split <;> omega
theorem zal4 {i n:Nat} (h:i < n):zL5 i n=i:=if_pos h
theorem zcv5 {α:Type} {n sz:Nat} (f:α→List A) (hf:∀ x,(f x).length=sz) (z:α) (a:Arr α (n+1)) (i:Nat):sub (Arr.enc f a) (zL5 i (n+1) * sz) sz=f (a.get i z):=zcE0 f sz hf z a.l _ (by rw [a.h]; exact zaH4 (by omega))
theorem zcE1 {α:Type} {n sz:Nat} (f:α→List A) (hf:∀ x,(f x).length=sz) (a:Arr α (n+1)) (i:Nat) (x:α):upd (Arr.enc f a) (zL5 i (n+1) * sz) (f x)=Arr.enc f (a.put i x):=zcl7 f sz hf x a.l _ (by rw [a.h]; exact zaH4 (by omega))
attribute [go_sem] zal4
@[go_sem] theorem zdu3 (i n:Nat):(zL5 i (n+1)≤n)=True:=by
 have:=zaH4 (i:=i) (n:=n+1) (by omega)
 exact eq_true (by omega)
section
variable {n:Nat}
@[go_sem] theorem eI.alen (k:IntKind) (a:Arr Int n):(Arr.enc (eI k) a).length=n:=by rw [Arr.enc_len _ _ 1 (fun _=>rfl),Nat.mul_one]
@[go_sem] theorem eB.alen (a:Arr Bool n):(Arr.enc eB a).length=n:=by rw [Arr.enc_len _ _ 1 (fun _=>rfl),Nat.mul_one]
@[go_sem] theorem eI.aat (k:IntKind) (a:Arr Int (n+1)) (i:Nat):sub (Arr.enc (eI k) a) (zL5 i (n+1)) 1=[A.int k (a.get i 0)]:=by
 have:=zcv5 (eI k) (sz:=1) (fun _=>rfl) 0 a i; rwa [Nat.mul_one] at this
@[go_sem] theorem eI.aput (k:IntKind) (a:Arr Int (n+1)) (i:Nat) (x:Int):upd (Arr.enc (eI k) a) (zL5 i (n+1)) [A.int k x]=Arr.enc (eI k) (a.put i x):=by
 have:=zcE1 (eI k) (sz:=1) (fun _=>rfl) a i x; rwa [Nat.mul_one] at this
@[go_sem] theorem eI.aatc (k:IntKind) (a:Arr Int (n+1)) (i:Nat) (h:i < n+1):sub (Arr.enc (eI k) a) i 1=[A.int k (a.get i 0)]:=by
 have:=eI.aat k a i; rwa [zal4 h] at this
@[go_sem] theorem eI.aputc (k:IntKind) (a:Arr Int (n+1)) (i:Nat) (x:Int) (h:i < n+1):upd (Arr.enc (eI k) a) i [A.int k x]=Arr.enc (eI k) (a.put i x):=by
 have:=eI.aput k a i x; rwa [zal4 h] at this
@[go_sem] theorem eB.aat (a:Arr Bool (n+1)) (i:Nat):sub (Arr.enc eB a) (zL5 i (n+1)) 1=[A.bool (a.get i false)]:=by
 have:=zcv5 eB (sz:=1) (fun _=>rfl) false a i; rwa [Nat.mul_one] at this
@[go_sem] theorem eB.aat2 {m:Nat} (a:Arr (Arr Bool (m+1)) (n+1)) (i j:Nat):sub (Arr.enc (Arr.enc eB) a) (zL5 i (n+1) * (m+1)+zL5 j (m+1)) 1=[A.bool ((a.get i (Arr.rep (m+1) false)).get j false)]:=by
 have h1:=zcv5 (sz:=m+1) (Arr.enc eB) (fun x=>eB.alen x) (Arr.rep (m+1) false) a i
 have h2:=eB.aat (a.get i (Arr.rep (m+1) false)) j
 have hj:=zaH4 (i:=j) (n:=m+1) (by omega)
 rw [← h2,← h1]
 simp only [sub,List.drop_take,List.take_take,List.drop_drop]
 congr 1; omega
@[go_sem] theorem zdq4 (i j n m k:Nat) (h:(n+1) * (m+1)≤k+1):(zL5 i (n+1) * (m+1)+zL5 j (m+1)≤k)=True:=by
 have h1:=zaH4 (i:=i) (n:=n+1) (by omega)
 have h2:=zaH4 (i:=j) (n:=m+1) (by omega)
 have h3:(zL5 i (n+1)+1) * (m+1)≤(n+1) * (m+1):=Nat.mul_le_mul_right _ h1
 rw [Nat.add_mul] at h3
 exact eq_true (by omega)
@[go_sem] theorem eB.aput (a:Arr Bool (n+1)) (i:Nat) (x:Bool):upd (Arr.enc eB a) (zL5 i (n+1)) [A.bool x]=Arr.enc eB (a.put i x):=by
 have:=zcE1 eB (sz:=1) (fun _=>rfl) a i x; rwa [Nat.mul_one] at this
@[go_sem] theorem eB.aputc (a:Arr Bool (n+1)) (i:Nat) (x:Bool) (h:i < n+1):upd (Arr.enc eB a) i [A.bool x]=Arr.enc eB (a.put i x):=by
 have:=eB.aput a i x; rwa [zal4 h] at this
@[go_sem] theorem eB.aall (a b:Arr Bool n):upd (Arr.enc eB a) 0 (Arr.enc eB b)=Arr.enc eB b:=by
 simp [upd,eB.alen]
@[go_sem] theorem eI.asub (k:IntKind) (a:Arr Int n):sub (Arr.enc (eI k) a) 0 n=Arr.enc (eI k) a:=by
 rw [sub,List.drop_zero,List.take_of_length_le (by rw [eI.alen]; exact Nat.le_refl _)]
@[go_sem] theorem eB.asub (a:Arr Bool n):sub (Arr.enc eB a) 0 n=Arr.enc eB a:=by
 rw [sub,List.drop_zero,List.take_of_length_le (by rw [eB.alen]; exact Nat.le_refl _)]
theorem zbc3 {α:Type} (f:α→List A) (hf:∀ x,zo7 (f x)=true):∀ l:List α,zo7 (l.map f).flatten=true
 | []=>rfl
 | a :: l=>by
  have h1:=hf a
  have h2:=zbc3 f hf l
  have:∀ x y:List A,zo7 x=true→zo7 y=true→zo7 (x++y)=true:=fun x y hx hy=>by
   induction x with
   | nil=>exact hy
   | cons c x ih=>simp only [zo7,Bool.and_eq_true,List.cons_append] at hx ⊢; exact ⟨hx.1,ih hx.2⟩
  simpa using this _ _ h1 h2
@[go_sem] theorem eI.apure (k:IntKind) (a:Arr Int n):zo7 (Arr.enc (eI k) a)=true:=zbc3 _ (fun _=>rfl) _
@[go_sem] theorem eB.apure (a:Arr Bool n):zo7 (Arr.enc eB a)=true:=zbc3 _ (fun _=>rfl) _
end
class En (T:Type) where
 sz:Nat
 e:T→List A
 z:T
attribute [go_sem] En.sz En.e En.z
@[go_sem] abbrev bx {T:Type} [En T] (v:T):Row:=⟨false,En.sz T,En.e (En.z:T),[En.e v]⟩
@[go_sem] abbrev sx {T:Type} [En T] (v:List T):Row:=⟨false,En.sz T,En.e (En.z:T),v.map En.e⟩
@[go_sem] abbrev ga {T:Type} [En T] (v:T):A:=.agg (En.e v)
@[go_sem] abbrev la {T:Type} [En T] (v:List T):A:=.sl (v.map En.e)
section
variable {T:Type} {f:T→List A}
@[go_sem] theorem zdq5 {n:Nat} (h:∀ x,(f x).length=n) (l:List T):zP2 n (l.map f):=by intro c hc; obtain ⟨x,_,rfl⟩:=List.mem_map.1 hc; exact h x
@[go_sem] theorem zdj7 (h:∀ x,zo7 (f x)=true) (l:List T):zao6 (l.map f):=by intro c hc; obtain ⟨x,_,rfl⟩:=List.mem_map.1 hc; exact zas7 (h x)
@[go_sem] theorem zdq6 (h:∀ x,zo7 (f x)=true) (l:List T):pureEs (l.map f)=true:=by induction l with
 | nil=>rfl
 | cons a l ih=>simp [Ab.pureEs,h,ih]
@[go_sem] theorem zdw7 (l:List T) (i:Nat) (z:T):(l.map f).getD i (f z)=f (l.getD i z):=by
 simp only [List.getD_eq_getElem?_getD,List.getElem?_map]; cases l[i]? <;> rfl
@[go_sem] theorem zdw8 (l:List T) (x:T):l.map f++[f x]=(l++[x]).map f:=by simp
@[go_sem] theorem zdy6 (l:List T) (i:Nat) (x:T):(l.map f).set i (f x)=(l.set i x).map f:=by simp [List.map_set]
end
@[ext] structure Resource where
 name:ByteArray
 (kind units home:Int)
 deriving DecidableEq
namespace Resource
def zero:Resource:=⟨⟨#[]⟩,0,0,0⟩
def enc (x:Resource):List A:=[A.str x.name,A.int .i64 x.kind,A.int .i64 x.units,A.int .i64 x.home]
@[go_sem] theorem len (x:Resource):(enc x).length=4:=by simp [enc]
instance:En Resource:=⟨4,enc,zero⟩
@[go_sem] theorem laws (x:Resource) :
 zo7 (enc x)=true ∧
 zu1 (enc x)=true ∧
 zr0 [.s,.i .i64,.i .i64,.i .i64] (enc x)=true ∧
 sub (enc x) 0 4=enc x ∧
 (∀ y,upd (enc x) 0 (enc y)=enc y) ∧
 sub (enc x) 0 1=[A.str x.name] ∧
 sub (enc x) 1 1=[A.int .i64 x.kind] ∧
 sub (enc x) 2 1=[A.int .i64 x.units] ∧
 sub (enc x) 3 1=[A.int .i64 x.home] ∧
 (∀ v,upd (enc x) 0 ([A.str v])=enc { x with name:=v }) ∧
 (∀ v,upd (enc x) 1 ([A.int .i64 v])=enc { x with kind:=v }) ∧
 (∀ v,upd (enc x) 2 ([A.int .i64 v])=enc { x with units:=v }) ∧
 (∀ v,upd (enc x) 3 ([A.int .i64 v])=enc { x with home:=v }) ∧
 (∀ (c0 c1 c2 c3:A) (cs:List A),upd (c0 :: c1 :: c2 :: c3 :: cs) 0 (enc x)=A.str x.name :: A.int .i64 x.kind :: A.int .i64 x.units :: A.int .i64 x.home :: cs) ∧
 (∀ (c0 c1 c2 c3:A),upd (enc x) 0 [c0,c1,c2,c3]=[c0,c1,c2,c3]):=by simp [sub,upd,zo7,A.pure1,zu1,A.scal1,zr0,LK.fits,Nat.add_comm,enc]
@[go_sem] theorem eq (x y:Resource):eqA (enc x) (enc y)=decide (x=y):=by
 rw [Bool.eq_iff_iff]; simp [eqA,eq1,zas9,and_assoc,enc,Resource.ext_iff]
end Resource
@[ext] structure Proc where
 (site inc num:Int)
 deriving DecidableEq
namespace Proc
def zero:Proc:=⟨0,0,0⟩
def enc (x:Proc):List A:=[A.int .i64 x.site,A.int .i64 x.inc,A.int .i64 x.num]
@[go_sem] theorem len (x:Proc):(enc x).length=3:=by simp [enc]
instance:En Proc:=⟨3,enc,zero⟩
@[go_sem] theorem laws (x:Proc) :
 zo7 (enc x)=true ∧
 zu1 (enc x)=true ∧
 zr0 [.i .i64,.i .i64,.i .i64] (enc x)=true ∧
 sub (enc x) 0 3=enc x ∧
 (∀ y,upd (enc x) 0 (enc y)=enc y) ∧
 sub (enc x) 0 1=[A.int .i64 x.site] ∧
 sub (enc x) 1 1=[A.int .i64 x.inc] ∧
 sub (enc x) 2 1=[A.int .i64 x.num] ∧
 (∀ v,upd (enc x) 0 ([A.int .i64 v])=enc { x with site:=v }) ∧
 (∀ v,upd (enc x) 1 ([A.int .i64 v])=enc { x with inc:=v }) ∧
 (∀ v,upd (enc x) 2 ([A.int .i64 v])=enc { x with num:=v }) ∧
 (∀ (c0 c1 c2:A) (cs:List A),upd (c0 :: c1 :: c2 :: cs) 0 (enc x)=A.int .i64 x.site :: A.int .i64 x.inc :: A.int .i64 x.num :: cs) ∧
 (∀ (c0 c1 c2:A),upd (enc x) 0 [c0,c1,c2]=[c0,c1,c2]):=by simp [sub,upd,zo7,A.pure1,zu1,A.scal1,zr0,LK.fits,Nat.add_comm,enc]
@[go_sem] theorem eq (x y:Proc):eqA (enc x) (enc y)=decide (x=y):=by
 rw [Bool.eq_iff_iff]; simp [eqA,eq1,zas9,and_assoc,enc,Proc.ext_iff]
@[go_sem] theorem rep (n:Nat) (x:Proc):List.replicate n (enc x)=(List.replicate n x).map enc:=by simp
end Proc
@[ext] structure Amount where
 (mode units:Int)
 deriving DecidableEq
namespace Amount
def zero:Amount:=⟨0,0⟩
def enc (x:Amount):List A:=[A.int .i64 x.mode,A.int .i64 x.units]
@[go_sem] theorem len (x:Amount):(enc x).length=2:=by simp [enc]
instance:En Amount:=⟨2,enc,zero⟩
@[go_sem] theorem laws (x:Amount) :
 zo7 (enc x)=true ∧
 zu1 (enc x)=true ∧
 zr0 [.i .i64,.i .i64] (enc x)=true ∧
 sub (enc x) 0 2=enc x ∧
 (∀ y,upd (enc x) 0 (enc y)=enc y) ∧
 sub (enc x) 0 1=[A.int .i64 x.mode] ∧
 sub (enc x) 1 1=[A.int .i64 x.units] ∧
 (∀ v,upd (enc x) 0 ([A.int .i64 v])=enc { x with mode:=v }) ∧
 (∀ v,upd (enc x) 1 ([A.int .i64 v])=enc { x with units:=v }) ∧
 (∀ (c0 c1:A) (cs:List A),upd (c0 :: c1 :: cs) 0 (enc x)=A.int .i64 x.mode :: A.int .i64 x.units :: cs) ∧
 (∀ (c0 c1:A),upd (enc x) 0 [c0,c1]=[c0,c1]):=by simp [sub,upd,zo7,A.pure1,zu1,A.scal1,zr0,LK.fits,Nat.add_comm,enc]
@[go_sem] theorem eq (x y:Amount):eqA (enc x) (enc y)=decide (x=y):=by
 rw [Bool.eq_iff_iff]; simp [eqA,eq1,zas9,and_assoc,enc,Amount.ext_iff]
end Amount
@[ext] structure Hold where
 proc:Proc
 amount:Amount
 deriving DecidableEq
namespace Hold
def zero:Hold:=⟨Proc.zero,Amount.zero⟩
def enc (x:Hold):List A:=Proc.enc x.proc++Amount.enc x.amount
@[go_sem] theorem len (x:Hold):(enc x).length=5:=by simp [enc,Amount.len,Proc.len]
instance:En Hold:=⟨5,enc,zero⟩
@[go_sem] theorem laws (x:Hold) :
 zo7 (enc x)=true ∧
 zu1 (enc x)=true ∧
 zr0 [.i .i64,.i .i64,.i .i64,.i .i64,.i .i64] (enc x)=true ∧
 sub (enc x) 0 5=enc x ∧
 (∀ y,upd (enc x) 0 (enc y)=enc y) ∧
 sub (enc x) 0 3=Proc.enc x.proc ∧
 sub (enc x) 3 2=Amount.enc x.amount ∧
 sub (enc x) 3 1=[A.int .i64 x.amount.mode] ∧
 sub (enc x) 4 1=[A.int .i64 x.amount.units] ∧
 (∀ v,upd (enc x) 0 (Proc.enc v)=enc { x with proc:=v }) ∧
 (∀ v,upd (enc x) 3 (Amount.enc v)=enc { x with amount:=v }) ∧
 (∀ (c0 c1 c2 c3 c4:A) (cs:List A),upd (c0 :: c1 :: c2 :: c3 :: c4 :: cs) 0 (enc x)=A.int .i64 x.proc.site :: A.int .i64 x.proc.inc :: A.int .i64 x.proc.num :: A.int .i64 x.amount.mode :: A.int .i64 x.amount.units :: cs) ∧
 (∀ (c0 c1 c2 c3 c4:A),upd (enc x) 0 [c0,c1,c2,c3,c4]=[c0,c1,c2,c3,c4]):=by simp [sub,upd,zo7,A.pure1,zu1,A.scal1,zr0,LK.fits,Nat.add_comm,enc,Amount.enc,Proc.enc]
@[go_sem] theorem eq (x y:Hold):eqA (enc x) (enc y)=decide (x=y):=by
 rw [Bool.eq_iff_iff]; simp [eqA,eq1,zas9,and_assoc,enc,Amount.enc,Proc.enc,Hold.ext_iff,Amount.ext_iff,Proc.ext_iff]
@[go_sem] theorem rep (n:Nat) (x:Hold):List.replicate n (enc x)=(List.replicate n x).map enc:=by simp
end Hold
@[ext] structure Wait where
 proc:Proc
 amount:Amount
 (priority passed:Int)
 deriving DecidableEq
namespace Wait
def zero:Wait:=⟨Proc.zero,Amount.zero,0,0⟩
def enc (x:Wait):List A:=Proc.enc x.proc++Amount.enc x.amount++[A.int .i64 x.priority,A.int .i64 x.passed]
@[go_sem] theorem len (x:Wait):(enc x).length=7:=by simp [enc,Amount.len,Proc.len]
instance:En Wait:=⟨7,enc,zero⟩
@[go_sem] theorem laws (x:Wait) :
 zo7 (enc x)=true ∧
 zu1 (enc x)=true ∧
 zr0 [.i .i64,.i .i64,.i .i64,.i .i64,.i .i64,.i .i64,.i .i64] (enc x)=true ∧
 sub (enc x) 0 7=enc x ∧
 (∀ y,upd (enc x) 0 (enc y)=enc y) ∧
 sub (enc x) 0 3=Proc.enc x.proc ∧
 sub (enc x) 3 2=Amount.enc x.amount ∧
 sub (enc x) 3 1=[A.int .i64 x.amount.mode] ∧
 sub (enc x) 4 1=[A.int .i64 x.amount.units] ∧
 sub (enc x) 5 1=[A.int .i64 x.priority] ∧
 sub (enc x) 6 1=[A.int .i64 x.passed] ∧
 (∀ v,upd (enc x) 0 (Proc.enc v)=enc { x with proc:=v }) ∧
 (∀ v,upd (enc x) 3 (Amount.enc v)=enc { x with amount:=v }) ∧
 (∀ v,upd (enc x) 5 ([A.int .i64 v])=enc { x with priority:=v }) ∧
 (∀ v,upd (enc x) 6 ([A.int .i64 v])=enc { x with passed:=v }) ∧
 (∀ (c0 c1 c2 c3 c4 c5 c6:A) (cs:List A),upd (c0 :: c1 :: c2 :: c3 :: c4 :: c5 :: c6 :: cs) 0 (enc x)=A.int .i64 x.proc.site :: A.int .i64 x.proc.inc :: A.int .i64 x.proc.num :: A.int .i64 x.amount.mode :: A.int .i64 x.amount.units :: A.int .i64 x.priority :: A.int .i64 x.passed :: cs) ∧
 (∀ (c0 c1 c2 c3 c4 c5 c6:A),upd (enc x) 0 [c0,c1,c2,c3,c4,c5,c6]=[c0,c1,c2,c3,c4,c5,c6]):=by simp [sub,upd,zo7,A.pure1,zu1,A.scal1,zr0,LK.fits,Nat.add_comm,enc,Amount.enc,Proc.enc]
@[go_sem] theorem eq (x y:Wait):eqA (enc x) (enc y)=decide (x=y):=by
 rw [Bool.eq_iff_iff]; simp [eqA,eq1,zas9,and_assoc,enc,Amount.enc,Proc.enc,Wait.ext_iff,Amount.ext_iff,Proc.ext_iff]
end Wait
@[ext] structure Queue where
 resource:Resource
 holds:(List Hold)
 (converts waits:(List Wait))
 gen:Int
namespace Queue
def zero:Queue:=⟨Resource.zero,[],[],[],0⟩
def enc (x:Queue):List A:=Resource.enc x.resource++[A.sl (x.holds.map Hold.enc),A.sl (x.converts.map Wait.enc),A.sl (x.waits.map Wait.enc),A.int .i64 x.gen]
@[go_sem] theorem len (x:Queue):(enc x).length=8:=by simp [enc,Resource.len]
instance:En Queue:=⟨8,enc,zero⟩
@[go_sem] theorem laws (x:Queue) :
 zo7 (enc x)=true ∧
 zu1 (enc x)=false ∧
 sub (enc x) 0 8=enc x ∧
 (∀ y,upd (enc x) 0 (enc y)=enc y) ∧
 sub (enc x) 0 4=Resource.enc x.resource ∧
 sub (enc x) 0 1=[A.str x.resource.name] ∧
 sub (enc x) 1 1=[A.int .i64 x.resource.kind] ∧
 sub (enc x) 2 1=[A.int .i64 x.resource.units] ∧
 sub (enc x) 3 1=[A.int .i64 x.resource.home] ∧
 sub (enc x) 4 1=[A.sl (x.holds.map Hold.enc)] ∧
 sub (enc x) 5 1=[A.sl (x.converts.map Wait.enc)] ∧
 sub (enc x) 6 1=[A.sl (x.waits.map Wait.enc)] ∧
 sub (enc x) 7 1=[A.int .i64 x.gen] ∧
 (∀ v,upd (enc x) 0 (Resource.enc v)=enc { x with resource:=v }) ∧
 (∀ v,upd (enc x) 0 ([A.str v])=enc { x with resource:={ x.resource with name:=v } }) ∧
 (∀ v,upd (enc x) 1 ([A.int .i64 v])=enc { x with resource:={ x.resource with kind:=v } }) ∧
 (∀ v,upd (enc x) 2 ([A.int .i64 v])=enc { x with resource:={ x.resource with units:=v } }) ∧
 (∀ v,upd (enc x) 3 ([A.int .i64 v])=enc { x with resource:={ x.resource with home:=v } }) ∧
 (∀ v,upd (enc x) 4 ([A.sl (v.map Hold.enc)])=enc { x with holds:=v }) ∧
 (∀ v,upd (enc x) 5 ([A.sl (v.map Wait.enc)])=enc { x with converts:=v }) ∧
 (∀ v,upd (enc x) 6 ([A.sl (v.map Wait.enc)])=enc { x with waits:=v }) ∧
 (∀ v,upd (enc x) 7 ([A.int .i64 v])=enc { x with gen:=v }) ∧
 (∀ (c0 c1 c2 c3 c4 c5 c6 c7:A) (cs:List A),upd (c0 :: c1 :: c2 :: c3 :: c4 :: c5 :: c6 :: c7 :: cs) 0 (enc x)=A.str x.resource.name :: A.int .i64 x.resource.kind :: A.int .i64 x.resource.units :: A.int .i64 x.resource.home :: A.sl (x.holds.map Hold.enc) :: A.sl (x.converts.map Wait.enc) :: A.sl (x.waits.map Wait.enc) :: A.int .i64 x.gen :: cs) ∧
 (∀ (c0 c1 c2 c3 c4 c5 c6 c7:A),upd (enc x) 0 [c0,c1,c2,c3,c4,c5,c6,c7]=[c0,c1,c2,c3,c4,c5,c6,c7]) ∧
 (∀ y lo k,upd (enc x) 4 [.own y lo k]=[A.str x.resource.name,A.int .i64 x.resource.kind,A.int .i64 x.resource.units,A.int .i64 x.resource.home,.own y lo k,A.sl (x.converts.map Wait.enc),A.sl (x.waits.map Wait.enc),A.int .i64 x.gen]) ∧
 (∀ y lo k,upd (enc x) 5 [.own y lo k]=[A.str x.resource.name,A.int .i64 x.resource.kind,A.int .i64 x.resource.units,A.int .i64 x.resource.home,A.sl (x.holds.map Hold.enc),.own y lo k,A.sl (x.waits.map Wait.enc),A.int .i64 x.gen]) ∧
 (∀ y lo k,upd (enc x) 6 [.own y lo k]=[A.str x.resource.name,A.int .i64 x.resource.kind,A.int .i64 x.resource.units,A.int .i64 x.resource.home,A.sl (x.holds.map Hold.enc),A.sl (x.converts.map Wait.enc),.own y lo k,A.int .i64 x.gen]):=by simp [sub,upd,zo7,A.pure1,zu1,A.scal1,zr0,LK.fits,Nat.add_comm,enc,Resource.enc]
end Queue
@[ext] structure Atom where
 name:ByteArray
 amount:Amount
 deriving DecidableEq
namespace Atom
def zero:Atom:=⟨⟨#[]⟩,Amount.zero⟩
def enc (x:Atom):List A:=[A.str x.name]++Amount.enc x.amount
@[go_sem] theorem len (x:Atom):(enc x).length=3:=by simp [enc,Amount.len]
instance:En Atom:=⟨3,enc,zero⟩
@[go_sem] theorem laws (x:Atom) :
 zo7 (enc x)=true ∧
 zu1 (enc x)=true ∧
 zr0 [.s,.i .i64,.i .i64] (enc x)=true ∧
 sub (enc x) 0 3=enc x ∧
 (∀ y,upd (enc x) 0 (enc y)=enc y) ∧
 sub (enc x) 0 1=[A.str x.name] ∧
 sub (enc x) 1 2=Amount.enc x.amount ∧
 sub (enc x) 1 1=[A.int .i64 x.amount.mode] ∧
 sub (enc x) 2 1=[A.int .i64 x.amount.units] ∧
 (∀ v,upd (enc x) 0 ([A.str v])=enc { x with name:=v }) ∧
 (∀ v,upd (enc x) 1 (Amount.enc v)=enc { x with amount:=v }) ∧
 (∀ (c0 c1 c2:A) (cs:List A),upd (c0 :: c1 :: c2 :: cs) 0 (enc x)=A.str x.name :: A.int .i64 x.amount.mode :: A.int .i64 x.amount.units :: cs) ∧
 (∀ (c0 c1 c2:A),upd (enc x) 0 [c0,c1,c2]=[c0,c1,c2]):=by simp [sub,upd,zo7,A.pure1,zu1,A.scal1,zr0,LK.fits,Nat.add_comm,enc,Amount.enc]
@[go_sem] theorem eq (x y:Atom):eqA (enc x) (enc y)=decide (x=y):=by
 rw [Bool.eq_iff_iff]; simp [eqA,eq1,zas9,and_assoc,enc,Amount.enc,Atom.ext_iff,Amount.ext_iff]
end Atom
@[ext] structure Expr where
 k:Int
 atom:Atom
 kids:(List Expr)
namespace Expr
def zero:Expr:=⟨0,Atom.zero,[]⟩
def enc (x:Expr):List A:=[A.int .i64 x.k]++Atom.enc x.atom++[A.sl (x.kids.map Expr.enc)]
termination_by _root_.SizeOf.sizeOf x
decreasing_by
 rename_i h
 have h2:=List.sizeOf_lt_of_mem h
 cases x
 simp at h2 ⊢
 omega
@[simp] theorem enc_mk (k:Int) (atom:Atom) (kids:(List Expr)):enc ⟨k,atom,kids⟩=[A.int .i64 k,A.str atom.name,A.int .i64 atom.amount.mode,A.int .i64 atom.amount.units,A.sl (kids.map Expr.enc)]:=by simp [enc,Amount.enc,Atom.enc]
@[simp] theorem zeb2:zero.k=0∧zero.atom.name=⟨#[]⟩∧zero.atom.amount.mode=0∧zero.atom.amount.units=0∧zero.kids=[]:=by and_intros <;> rfl
theorem enc_cells (x:Expr):[A.int .i64 x.k,A.str x.atom.name,A.int .i64 x.atom.amount.mode,A.int .i64 x.atom.amount.units,A.sl (x.kids.map Expr.enc)]=enc x:=by simp [enc,Amount.enc,Atom.enc]
@[go_sem] theorem len (x:Expr):(enc x).length=5:=by simp [enc,Atom.len]
instance:En Expr:=⟨5,enc,zero⟩
@[go_sem] theorem laws (x:Expr) :
 zo7 (enc x)=true ∧
 zu1 (enc x)=false ∧
 sub (enc x) 0 5=enc x ∧
 (∀ y,upd (enc x) 0 (enc y)=enc y) ∧
 sub (enc x) 0 1=[A.int .i64 x.k] ∧
 sub (enc x) 1 3=Atom.enc x.atom ∧
 sub (enc x) 1 1=[A.str x.atom.name] ∧
 sub (enc x) 2 2=Amount.enc x.atom.amount ∧
 sub (enc x) 2 1=[A.int .i64 x.atom.amount.mode] ∧
 sub (enc x) 3 1=[A.int .i64 x.atom.amount.units] ∧
 sub (enc x) 4 1=[A.sl (x.kids.map Expr.enc)] ∧
 (∀ v,upd (enc x) 0 ([A.int .i64 v])=enc { x with k:=v }) ∧
 (∀ v,upd (enc x) 1 (Atom.enc v)=enc { x with atom:=v }) ∧
 (∀ v,upd (enc x) 1 ([A.str v])=enc { x with atom:={ x.atom with name:=v } }) ∧
 (∀ v,upd (enc x) 2 (Amount.enc v)=enc { x with atom:={ x.atom with amount:=v } }) ∧
 (∀ v,upd (enc x) 4 ([A.sl (v.map Expr.enc)])=enc { x with kids:=v }) ∧
 (∀ (c0 c1 c2 c3 c4:A) (cs:List A),upd (c0 :: c1 :: c2 :: c3 :: c4 :: cs) 0 (enc x)=A.int .i64 x.k :: A.str x.atom.name :: A.int .i64 x.atom.amount.mode :: A.int .i64 x.atom.amount.units :: A.sl (x.kids.map Expr.enc) :: cs) ∧
 (∀ (c0 c1 c2 c3 c4:A),upd (enc x) 0 [c0,c1,c2,c3,c4]=[c0,c1,c2,c3,c4]) ∧
 (∀ y lo k,upd (enc x) 4 [.own y lo k]=[A.int .i64 x.k,A.str x.atom.name,A.int .i64 x.atom.amount.mode,A.int .i64 x.atom.amount.units,.own y lo k]):=by simp [sub,upd,zo7,A.pure1,zu1,A.scal1,zr0,LK.fits,Nat.add_comm,enc,Amount.enc,Atom.enc]
end Expr
@[ext] structure Need where
 proc:Proc
 expr:Expr
 gen:Int
namespace Need
def zero:Need:=⟨Proc.zero,Expr.zero,0⟩
def enc (x:Need):List A:=Proc.enc x.proc++Expr.enc x.expr++[A.int .i64 x.gen]
@[simp] theorem enc_mk (proc:Proc) (expr:Expr) (gen:Int):enc ⟨proc,expr,gen⟩=[A.int .i64 proc.site,A.int .i64 proc.inc,A.int .i64 proc.num,A.int .i64 expr.k,A.str expr.atom.name,A.int .i64 expr.atom.amount.mode,A.int .i64 expr.atom.amount.units,A.sl (expr.kids.map Expr.enc),A.int .i64 gen]:=by simp [enc,Amount.enc,Atom.enc,Expr.enc,Proc.enc]
@[go_sem] theorem len (x:Need):(enc x).length=9:=by simp [enc,Expr.len,Proc.len]
instance:En Need:=⟨9,enc,zero⟩
@[go_sem] theorem laws (x:Need) :
 zo7 (enc x)=true ∧
 zu1 (enc x)=false ∧
 sub (enc x) 0 9=enc x ∧
 (∀ y,upd (enc x) 0 (enc y)=enc y) ∧
 sub (enc x) 0 3=Proc.enc x.proc ∧
 sub (enc x) 3 5=Expr.enc x.expr ∧
 sub (enc x) 8 1=[A.int .i64 x.gen] ∧
 (∀ v,upd (enc x) 0 (Proc.enc v)=enc { x with proc:=v }) ∧
 (∀ v,upd (enc x) 3 (Expr.enc v)=enc { x with expr:=v }) ∧
 (∀ v,upd (enc x) 8 ([A.int .i64 v])=enc { x with gen:=v }) ∧
 (∀ (c0 c1 c2 c3 c4 c5 c6 c7 c8:A),upd (enc x) 0 [c0,c1,c2,c3,c4,c5,c6,c7,c8]=[c0,c1,c2,c3,c4,c5,c6,c7,c8]):=by simp [sub,upd,zo7,A.pure1,zu1,A.scal1,zr0,LK.fits,Nat.add_comm,enc,Amount.enc,Atom.enc,Expr.enc,Proc.enc]
end Need
@[ext] structure WaitState where
 queues:(List Queue)
 needs:(List Need)
namespace WaitState
def zero:WaitState:=⟨[],[]⟩
def enc (x:WaitState):List A:=[A.sl (x.queues.map Queue.enc),A.sl (x.needs.map Need.enc)]
@[go_sem] theorem len (x:WaitState):(enc x).length=2:=by simp [enc]
instance:En WaitState:=⟨2,enc,zero⟩
@[go_sem] theorem laws (x:WaitState) :
 zo7 (enc x)=true ∧
 zu1 (enc x)=false ∧
 sub (enc x) 0 2=enc x ∧
 (∀ y,upd (enc x) 0 (enc y)=enc y) ∧
 sub (enc x) 0 1=[A.sl (x.queues.map Queue.enc)] ∧
 sub (enc x) 1 1=[A.sl (x.needs.map Need.enc)] ∧
 (∀ v,upd (enc x) 0 ([A.sl (v.map Queue.enc)])=enc { x with queues:=v }) ∧
 (∀ v,upd (enc x) 1 ([A.sl (v.map Need.enc)])=enc { x with needs:=v }) ∧
 (∀ (c0 c1:A) (cs:List A),upd (c0 :: c1 :: cs) 0 (enc x)=A.sl (x.queues.map Queue.enc) :: A.sl (x.needs.map Need.enc) :: cs) ∧
 (∀ (c0 c1:A),upd (enc x) 0 [c0,c1]=[c0,c1]) ∧
 (∀ y lo k,upd (enc x) 0 [.own y lo k]=[.own y lo k,A.sl (x.needs.map Need.enc)]) ∧
 (∀ y lo k,upd (enc x) 1 [.own y lo k]=[A.sl (x.queues.map Queue.enc),.own y lo k]):=by simp [sub,upd,zo7,A.pure1,zu1,A.scal1,zr0,LK.fits,Nat.add_comm,enc]
end WaitState
@[ext] structure Tape where
 l:(List Int)
 at_:Int
namespace Tape
def zero:Tape:=⟨[],0⟩
def enc (x:Tape):List A:=[A.sl (x.l.map (eI .i64)),A.int .i64 x.at_]
@[go_sem] theorem len (x:Tape):(enc x).length=2:=by simp [enc]
instance:En Tape:=⟨2,enc,zero⟩
@[go_sem] theorem laws (x:Tape) :
 zo7 (enc x)=true ∧
 zu1 (enc x)=false ∧
 sub (enc x) 0 2=enc x ∧
 (∀ y,upd (enc x) 0 (enc y)=enc y) ∧
 sub (enc x) 0 1=[A.sl (x.l.map (eI .i64))] ∧
 sub (enc x) 1 1=[A.int .i64 x.at_] ∧
 (∀ v,upd (enc x) 0 ([A.sl (v.map (eI .i64))])=enc { x with l:=v }) ∧
 (∀ v,upd (enc x) 1 ([A.int .i64 v])=enc { x with at_:=v }) ∧
 (∀ (c0 c1:A) (cs:List A),upd (c0 :: c1 :: cs) 0 (enc x)=A.sl (x.l.map (eI .i64)) :: A.int .i64 x.at_ :: cs) ∧
 (∀ (c0 c1:A),upd (enc x) 0 [c0,c1]=[c0,c1]) ∧
 (∀ y lo k,upd (enc x) 0 [.own y lo k]=[.own y lo k,A.int .i64 x.at_]):=by simp [sub,upd,zo7,A.pure1,zu1,A.scal1,zr0,LK.fits,Nat.add_comm,enc]
end Tape
@[ext] structure Entry where
 name:ByteArray
 (before after:Amount)
 deriving DecidableEq
namespace Entry
def zero:Entry:=⟨⟨#[]⟩,Amount.zero,Amount.zero⟩
def enc (x:Entry):List A:=[A.str x.name]++Amount.enc x.before++Amount.enc x.after
@[go_sem] theorem len (x:Entry):(enc x).length=5:=by simp [enc,Amount.len]
instance:En Entry:=⟨5,enc,zero⟩
@[go_sem] theorem laws (x:Entry) :
 zo7 (enc x)=true ∧
 zu1 (enc x)=true ∧
 zr0 [.s,.i .i64,.i .i64,.i .i64,.i .i64] (enc x)=true ∧
 sub (enc x) 0 5=enc x ∧
 (∀ y,upd (enc x) 0 (enc y)=enc y) ∧
 sub (enc x) 0 1=[A.str x.name] ∧
 sub (enc x) 1 2=Amount.enc x.before ∧
 sub (enc x) 3 2=Amount.enc x.after ∧
 (∀ v,upd (enc x) 0 ([A.str v])=enc { x with name:=v }) ∧
 (∀ v,upd (enc x) 1 (Amount.enc v)=enc { x with before:=v }) ∧
 (∀ v,upd (enc x) 3 (Amount.enc v)=enc { x with after:=v }) ∧
 (∀ (c0 c1 c2 c3 c4:A) (cs:List A),upd (c0 :: c1 :: c2 :: c3 :: c4 :: cs) 0 (enc x)=A.str x.name :: A.int .i64 x.before.mode :: A.int .i64 x.before.units :: A.int .i64 x.after.mode :: A.int .i64 x.after.units :: cs) ∧
 (∀ (c0 c1 c2 c3 c4:A),upd (enc x) 0 [c0,c1,c2,c3,c4]=[c0,c1,c2,c3,c4]):=by simp [sub,upd,zo7,A.pure1,zu1,A.scal1,zr0,LK.fits,Nat.add_comm,enc,Amount.enc]
end Entry
@[ext] structure Save where
 (label at_:Int)
 deriving DecidableEq
namespace Save
def zero:Save:=⟨0,0⟩
def enc (x:Save):List A:=[A.int .i64 x.label,A.int .i64 x.at_]
@[go_sem] theorem len (x:Save):(enc x).length=2:=by simp [enc]
instance:En Save:=⟨2,enc,zero⟩
@[go_sem] theorem laws (x:Save) :
 zo7 (enc x)=true ∧
 zu1 (enc x)=true ∧
 zr0 [.i .i64,.i .i64] (enc x)=true ∧
 sub (enc x) 0 2=enc x ∧
 (∀ y,upd (enc x) 0 (enc y)=enc y) ∧
 sub (enc x) 0 1=[A.int .i64 x.label] ∧
 sub (enc x) 1 1=[A.int .i64 x.at_] ∧
 (∀ v,upd (enc x) 0 ([A.int .i64 v])=enc { x with label:=v }) ∧
 (∀ v,upd (enc x) 1 ([A.int .i64 v])=enc { x with at_:=v }) ∧
 (∀ (c0 c1:A) (cs:List A),upd (c0 :: c1 :: cs) 0 (enc x)=A.int .i64 x.label :: A.int .i64 x.at_ :: cs) ∧
 (∀ (c0 c1:A),upd (enc x) 0 [c0,c1]=[c0,c1]):=by simp [sub,upd,zo7,A.pure1,zu1,A.scal1,zr0,LK.fits,Nat.add_comm,enc]
end Save
@[ext] structure Ledger where
 entries:(List Entry)
 saves:(List Save)
namespace Ledger
def zero:Ledger:=⟨[],[]⟩
def enc (x:Ledger):List A:=[A.sl (x.entries.map Entry.enc),A.sl (x.saves.map Save.enc)]
@[go_sem] theorem len (x:Ledger):(enc x).length=2:=by simp [enc]
instance:En Ledger:=⟨2,enc,zero⟩
@[go_sem] theorem laws (x:Ledger) :
 zo7 (enc x)=true ∧
 zu1 (enc x)=false ∧
 sub (enc x) 0 2=enc x ∧
 (∀ y,upd (enc x) 0 (enc y)=enc y) ∧
 sub (enc x) 0 1=[A.sl (x.entries.map Entry.enc)] ∧
 sub (enc x) 1 1=[A.sl (x.saves.map Save.enc)] ∧
 (∀ v,upd (enc x) 0 ([A.sl (v.map Entry.enc)])=enc { x with entries:=v }) ∧
 (∀ v,upd (enc x) 1 ([A.sl (v.map Save.enc)])=enc { x with saves:=v }) ∧
 (∀ (c0 c1:A) (cs:List A),upd (c0 :: c1 :: cs) 0 (enc x)=A.sl (x.entries.map Entry.enc) :: A.sl (x.saves.map Save.enc) :: cs) ∧
 (∀ (c0 c1:A),upd (enc x) 0 [c0,c1]=[c0,c1]) ∧
 (∀ y lo k,upd (enc x) 0 [.own y lo k]=[.own y lo k,A.sl (x.saves.map Save.enc)]) ∧
 (∀ y lo k,upd (enc x) 1 [.own y lo k]=[A.sl (x.entries.map Entry.enc),.own y lo k]):=by simp [sub,upd,zo7,A.pure1,zu1,A.scal1,zr0,LK.fits,Nat.add_comm,enc]
end Ledger
@[ext] structure Request where
 expr:Expr
 (priority limit:Int)
namespace Request
def zero:Request:=⟨Expr.zero,0,0⟩
def enc (x:Request):List A:=Expr.enc x.expr++[A.int .i64 x.priority,A.int .i64 x.limit]
@[go_sem] theorem len (x:Request):(enc x).length=7:=by simp [enc,Expr.len]
instance:En Request:=⟨7,enc,zero⟩
@[go_sem] theorem laws (x:Request) :
 zo7 (enc x)=true ∧
 zu1 (enc x)=false ∧
 sub (enc x) 0 7=enc x ∧
 (∀ y,upd (enc x) 0 (enc y)=enc y) ∧
 sub (enc x) 0 5=Expr.enc x.expr ∧
 sub (enc x) 5 1=[A.int .i64 x.priority] ∧
 sub (enc x) 6 1=[A.int .i64 x.limit] ∧
 (∀ v,upd (enc x) 0 (Expr.enc v)=enc { x with expr:=v }) ∧
 (∀ v,upd (enc x) 5 ([A.int .i64 v])=enc { x with priority:=v }) ∧
 (∀ v,upd (enc x) 6 ([A.int .i64 v])=enc { x with limit:=v }) ∧
 (∀ (c0 c1 c2 c3 c4 c5 c6:A) (cs:List A),upd (c0 :: c1 :: c2 :: c3 :: c4 :: c5 :: c6 :: cs) 0 (enc x)=A.int .i64 x.expr.k :: A.str x.expr.atom.name :: A.int .i64 x.expr.atom.amount.mode :: A.int .i64 x.expr.atom.amount.units :: A.sl (x.expr.kids.map Expr.enc) :: A.int .i64 x.priority :: A.int .i64 x.limit :: cs) ∧
 (∀ (c0 c1 c2 c3 c4 c5 c6:A),upd (enc x) 0 [c0,c1,c2,c3,c4,c5,c6]=[c0,c1,c2,c3,c4,c5,c6]):=by simp [sub,upd,zo7,A.pure1,zu1,A.scal1,zr0,LK.fits,Nat.add_comm,enc,Amount.enc,Atom.enc,Expr.enc]
end Request
@[ext] structure Proce where
 proc:Proc
 cost:Int
 ledger:Ledger
 waiting:Bool
 request:Request
 (since gen:Int)
namespace Proce
def zero:Proce:=⟨Proc.zero,0,Ledger.zero,false,Request.zero,0,0⟩
def enc (x:Proce):List A:=Proc.enc x.proc++[A.int .i64 x.cost]++Ledger.enc x.ledger++[A.bool x.waiting]++Request.enc x.request++[A.int .i64 x.since,A.int .i64 x.gen]
@[go_sem] theorem len (x:Proce):(enc x).length=16:=by simp [enc,Ledger.len,Proc.len,Request.len]
instance:En Proce:=⟨16,enc,zero⟩
@[go_sem] theorem laws (x:Proce) :
 zo7 (enc x)=true ∧
 zu1 (enc x)=false ∧
 sub (enc x) 0 16=enc x ∧
 (∀ y,upd (enc x) 0 (enc y)=enc y) ∧
 sub (enc x) 0 3=Proc.enc x.proc ∧
 sub (enc x) 3 1=[A.int .i64 x.cost] ∧
 sub (enc x) 4 2=Ledger.enc x.ledger ∧
 sub (enc x) 4 1=[A.sl (x.ledger.entries.map Entry.enc)] ∧
 sub (enc x) 6 1=[A.bool x.waiting] ∧
 sub (enc x) 7 7=Request.enc x.request ∧
 sub (enc x) 7 5=Expr.enc x.request.expr ∧
 sub (enc x) 12 1=[A.int .i64 x.request.priority] ∧
 sub (enc x) 13 1=[A.int .i64 x.request.limit] ∧
 sub (enc x) 14 1=[A.int .i64 x.since] ∧
 sub (enc x) 15 1=[A.int .i64 x.gen] ∧
 (∀ v,upd (enc x) 0 (Proc.enc v)=enc { x with proc:=v }) ∧
 (∀ v,upd (enc x) 3 ([A.int .i64 v])=enc { x with cost:=v }) ∧
 (∀ v,upd (enc x) 4 (Ledger.enc v)=enc { x with ledger:=v }) ∧
 (∀ v,upd (enc x) 6 ([A.bool v])=enc { x with waiting:=v }) ∧
 (∀ v,upd (enc x) 7 (Request.enc v)=enc { x with request:=v }) ∧
 (∀ v,upd (enc x) 14 ([A.int .i64 v])=enc { x with since:=v }) ∧
 (∀ v,upd (enc x) 15 ([A.int .i64 v])=enc { x with gen:=v }) ∧
 (∀ (c0 c1 c2 c3 c4 c5 c6 c7 c8 c9 c10 c11 c12 c13 c14 c15:A),upd (enc x) 0 [c0,c1,c2,c3,c4,c5,c6,c7,c8,c9,c10,c11,c12,c13,c14,c15]=[c0,c1,c2,c3,c4,c5,c6,c7,c8,c9,c10,c11,c12,c13,c14,c15]):=by simp [sub,upd,zo7,A.pure1,zu1,A.scal1,zr0,LK.fits,Nat.add_comm,enc,Amount.enc,Atom.enc,Expr.enc,Ledger.enc,Proc.enc,Request.enc]
end Proce
@[ext] structure Central where
 now:Int
 queues:(List Queue)
 procs:(List Proce)
namespace Central
def zero:Central:=⟨0,[],[]⟩
def enc (x:Central):List A:=[A.int .i64 x.now,A.sl (x.queues.map Queue.enc),A.sl (x.procs.map Proce.enc)]
@[go_sem] theorem len (x:Central):(enc x).length=3:=by simp [enc]
instance:En Central:=⟨3,enc,zero⟩
@[go_sem] theorem laws (x:Central) :
 zo7 (enc x)=true ∧
 zu1 (enc x)=false ∧
 sub (enc x) 0 3=enc x ∧
 (∀ y,upd (enc x) 0 (enc y)=enc y) ∧
 sub (enc x) 0 1=[A.int .i64 x.now] ∧
 sub (enc x) 1 1=[A.sl (x.queues.map Queue.enc)] ∧
 sub (enc x) 2 1=[A.sl (x.procs.map Proce.enc)] ∧
 (∀ v,upd (enc x) 0 ([A.int .i64 v])=enc { x with now:=v }) ∧
 (∀ v,upd (enc x) 1 ([A.sl (v.map Queue.enc)])=enc { x with queues:=v }) ∧
 (∀ v,upd (enc x) 2 ([A.sl (v.map Proce.enc)])=enc { x with procs:=v }) ∧
 (∀ (c0 c1 c2:A) (cs:List A),upd (c0 :: c1 :: c2 :: cs) 0 (enc x)=A.int .i64 x.now :: A.sl (x.queues.map Queue.enc) :: A.sl (x.procs.map Proce.enc) :: cs) ∧
 (∀ (c0 c1 c2:A),upd (enc x) 0 [c0,c1,c2]=[c0,c1,c2]) ∧
 (∀ y lo k,upd (enc x) 1 [.own y lo k]=[A.int .i64 x.now,.own y lo k,A.sl (x.procs.map Proce.enc)]) ∧
 (∀ y lo k,upd (enc x) 2 [.own y lo k]=[A.int .i64 x.now,A.sl (x.queues.map Queue.enc),.own y lo k]):=by simp [sub,upd,zo7,A.pure1,zu1,A.scal1,zr0,LK.fits,Nat.add_comm,enc]
end Central
@[ext] structure waitstateReader where
 rest:(List Int)
 err:Int
namespace waitstateReader
def zero:waitstateReader:=⟨[],0⟩
def enc (x:waitstateReader):List A:=[A.sl (x.rest.map (eI .u8)),A.int .i64 x.err]
@[go_sem] theorem len (x:waitstateReader):(enc x).length=2:=by simp [enc]
instance:En waitstateReader:=⟨2,enc,zero⟩
@[go_sem] theorem laws (x:waitstateReader) :
 zo7 (enc x)=true ∧
 zu1 (enc x)=false ∧
 sub (enc x) 0 2=enc x ∧
 (∀ y,upd (enc x) 0 (enc y)=enc y) ∧
 sub (enc x) 0 1=[A.sl (x.rest.map (eI .u8))] ∧
 sub (enc x) 1 1=[A.int .i64 x.err] ∧
 (∀ v,upd (enc x) 0 ([A.sl (v.map (eI .u8))])=enc { x with rest:=v }) ∧
 (∀ v,upd (enc x) 1 ([A.int .i64 v])=enc { x with err:=v }) ∧
 (∀ (c0 c1:A) (cs:List A),upd (c0 :: c1 :: cs) 0 (enc x)=A.sl (x.rest.map (eI .u8)) :: A.int .i64 x.err :: cs) ∧
 (∀ (c0 c1:A),upd (enc x) 0 [c0,c1]=[c0,c1]) ∧
 (∀ y lo k,upd (enc x) 0 [.own y lo k]=[.own y lo k,A.int .i64 x.err]):=by simp [sub,upd,zo7,A.pure1,zu1,A.scal1,zr0,LK.fits,Nat.add_comm,enc]
end waitstateReader
@[ext] structure decoder where
 reader:waitstateReader
namespace decoder
def zero:decoder:=⟨waitstateReader.zero⟩
def enc (x:decoder):List A:=waitstateReader.enc x.reader
@[go_sem] theorem len (x:decoder):(enc x).length=2:=by simp [enc,waitstateReader.len]
instance:En decoder:=⟨2,enc,zero⟩
@[go_sem] theorem laws (x:decoder) :
 zo7 (enc x)=true ∧
 zu1 (enc x)=false ∧
 sub (enc x) 0 2=enc x ∧
 (∀ y,upd (enc x) 0 (enc y)=enc y) ∧
 sub (enc x) 0 1=[A.sl (x.reader.rest.map (eI .u8))] ∧
 sub (enc x) 1 1=[A.int .i64 x.reader.err] ∧
 (∀ v,upd (enc x) 1 ([A.int .i64 v])=enc { x with reader:={ x.reader with err:=v } }) ∧
 (∀ (c0 c1:A) (cs:List A),upd (c0 :: c1 :: cs) 0 (enc x)=A.sl (x.reader.rest.map (eI .u8)) :: A.int .i64 x.reader.err :: cs) ∧
 (∀ (c0 c1:A),upd (enc x) 0 [c0,c1]=[c0,c1]):=by simp [sub,upd,zo7,A.pure1,zu1,A.scal1,zr0,LK.fits,Nat.add_comm,enc,waitstateReader.enc]
end decoder
@[ext] structure ref16Reader where
 b:(List Int)
 (at_ e:Int)
namespace ref16Reader
def zero:ref16Reader:=⟨[],0,0⟩
def enc (x:ref16Reader):List A:=[A.sl (x.b.map (eI .u8)),A.int .i64 x.at_,A.int .i64 x.e]
instance:En ref16Reader:=⟨3,enc,zero⟩
end ref16Reader
@[ext] structure Command where
 kind:Int
 proc:Proc
 request:Request
 name:ByteArray
 n:Int
namespace Command
def zero:Command:=⟨0,Proc.zero,Request.zero,⟨#[]⟩,0⟩
def enc (x:Command):List A:=[A.int .i64 x.kind]++Proc.enc x.proc++Request.enc x.request++[A.str x.name,A.int .i64 x.n]
@[go_sem] theorem len (x:Command):(enc x).length=13:=by simp [enc,Proc.len,Request.len]
instance:En Command:=⟨13,enc,zero⟩
@[go_sem] theorem laws (x:Command) :
 zo7 (enc x)=true ∧
 zu1 (enc x)=false ∧
 sub (enc x) 0 13=enc x ∧
 (∀ y,upd (enc x) 0 (enc y)=enc y) ∧
 sub (enc x) 0 1=[A.int .i64 x.kind] ∧
 sub (enc x) 1 3=Proc.enc x.proc ∧
 sub (enc x) 4 7=Request.enc x.request ∧
 sub (enc x) 11 1=[A.str x.name] ∧
 sub (enc x) 12 1=[A.int .i64 x.n] ∧
 (∀ v,upd (enc x) 0 ([A.int .i64 v])=enc { x with kind:=v }) ∧
 (∀ v,upd (enc x) 1 (Proc.enc v)=enc { x with proc:=v }) ∧
 (∀ v,upd (enc x) 4 (Request.enc v)=enc { x with request:=v }) ∧
 (∀ v,upd (enc x) 11 ([A.str v])=enc { x with name:=v }) ∧
 (∀ v,upd (enc x) 12 ([A.int .i64 v])=enc { x with n:=v }) ∧
 (∀ (c0 c1 c2 c3 c4 c5 c6 c7 c8 c9 c10 c11 c12:A),upd (enc x) 0 [c0,c1,c2,c3,c4,c5,c6,c7,c8,c9,c10,c11,c12]=[c0,c1,c2,c3,c4,c5,c6,c7,c8,c9,c10,c11,c12]):=by simp [sub,upd,zo7,A.pure1,zu1,A.scal1,zr0,LK.fits,Nat.add_comm,enc,Amount.enc,Atom.enc,Expr.enc,Proc.enc,Request.enc]
end Command
@[ext] structure Event where
 kind:Int
 proc:Proc
 name:ByteArray
 amount:Amount
 deriving DecidableEq
namespace Event
def zero:Event:=⟨0,Proc.zero,⟨#[]⟩,Amount.zero⟩
def enc (x:Event):List A:=[A.int .i64 x.kind]++Proc.enc x.proc++[A.str x.name]++Amount.enc x.amount
@[go_sem] theorem len (x:Event):(enc x).length=7:=by simp [enc,Amount.len,Proc.len]
instance:En Event:=⟨7,enc,zero⟩
@[go_sem] theorem laws (x:Event) :
 zo7 (enc x)=true ∧
 zu1 (enc x)=true ∧
 zr0 [.i .i64,.i .i64,.i .i64,.i .i64,.s,.i .i64,.i .i64] (enc x)=true ∧
 sub (enc x) 0 7=enc x ∧
 (∀ y,upd (enc x) 0 (enc y)=enc y) ∧
 (∀ v,upd (enc x) 0 ([A.int .i64 v])=enc { x with kind:=v }) ∧
 (∀ v,upd (enc x) 1 (Proc.enc v)=enc { x with proc:=v }) ∧
 (∀ v,upd (enc x) 4 ([A.str v])=enc { x with name:=v }) ∧
 (∀ v,upd (enc x) 5 (Amount.enc v)=enc { x with amount:=v }) ∧
 (∀ (c0 c1 c2 c3 c4 c5 c6:A) (cs:List A),upd (c0 :: c1 :: c2 :: c3 :: c4 :: c5 :: c6 :: cs) 0 (enc x)=A.int .i64 x.kind :: A.int .i64 x.proc.site :: A.int .i64 x.proc.inc :: A.int .i64 x.proc.num :: A.str x.name :: A.int .i64 x.amount.mode :: A.int .i64 x.amount.units :: cs) ∧
 (∀ (c0 c1 c2 c3 c4 c5 c6:A),upd (enc x) 0 [c0,c1,c2,c3,c4,c5,c6]=[c0,c1,c2,c3,c4,c5,c6]):=by simp [sub,upd,zo7,A.pure1,zu1,A.scal1,zr0,LK.fits,Nat.add_comm,enc,Amount.enc,Proc.enc]
end Event
@[ext] structure work where
 c:Central
 ev:(List Event)
namespace work
def zero:work:=⟨Central.zero,[]⟩
def enc (x:work):List A:=Central.enc x.c++[A.sl (x.ev.map Event.enc)]
instance:En work:=⟨4,enc,zero⟩
end work
attribute [simp] Expr.enc_cells
set_option linter.unusedVariables false
def zaQ6:A→List Nat
 | .own x _ _=>[x]
 | .ptr x _ _=>[x]
 | _=>[]
def zbk4:A→List Nat
 | .clo _ cs=>cs.flatMap zaQ6
 | a=>zaQ6 a
def idsA:A→List Nat
 | .agg cs=>if zo7 cs then [] else cs.flatMap zbk4
 | a=>zbk4 a
def zE5:List A→List Nat
 | []=>[]
 | x :: xs=>idsA x++zE5 xs
def disj:List Nat→List Nat→Bool
 | [],_=>true
 | x :: xs,ys=>!ys.contains x&&disj xs ys
def zaY3 (an:List Nat) (i:Nat):List (List Nat×List Nat)→List Nat→List Nat→Bool
 | [],_,_=>true
 | q :: log,r,w=>(an.contains i||(disj q.2 r&&disj q.2 w&&disj w q.1))&&zaY3 an (i+1) log r w
def A.flatCap:A→Bool
 | .agg _=>false
 | .clo _ cs=>cs.isEmpty
 | _=>true
def zbc4:List A→Bool
 | []=>true
 | c :: cs=>c.flatCap&&zbc4 cs
def zaV0:List A→Bool
 | .clo _ caps :: _=>zbc4 caps
 | _=>true
theorem zbB0:∀ {cs:List A},zbc4 cs=true→∀ c ∈ cs,idsA c=zaQ6 c
 | d :: ds,h,c,hc=>by
  simp only [zbc4,Bool.and_eq_true] at h
  rcases List.mem_cons.1 hc with rfl|hc
  ·cases c <;> first|rfl|(simp [A.flatCap] at h; done)|skip
   rename_i f cs
   cases cs with
   | nil=>rfl
   | cons x xs=>simp [A.flatCap] at h
  ·exact zbB0 h.2 c hc
def zax9 (C:Cx) (an:List (List Nat)):List POp→St→List (List Nat×List Nat)→(St→Prop)→Prop
 | [],st,_,K=>K st
 | p :: ps,st,log,K=>aopS C p st.toS st.nx fun v mw=>zaY3 (an.getD log.length []) 0 log (zE5 (zt5 C st p.xs)) (mw.map (·.1))=true∧zaV0 (zt5 C st p.xs)=true ∧
   zax9 C an ps (st.app p.dst v mw) (log++[(zE5 (zt5 C st p.xs),mw.map (·.1))]) K
section
variable {C:Cx} {E:Env}
theorem zcU1 {p:POp} {s:S} {id:Nat} {K:A→List (Nat×MS)→Prop} (h:aopS C p s id K):∃ v mw,K v mw∧aopS C p s id (fun v' mw'=>v'=v∧mw'=mw):=by
 unfold aopS at h ⊢
 cases hg:zP4 s.fr p.g with
 | none=>simp [hg] at h
 | some g =>
  simp only [hg] at h ⊢
  cases hp:p.po <;> simp only [hp] at h ⊢
  case pick =>
   split at h
   ·split at h
    ·exact ⟨_,_,h.2,h.1,rfl,rfl⟩
    ·exact h.elim
   ·exact h.elim
  case call f =>
   obtain ⟨r,h1,h2,h3⟩:=h
   exact ⟨_,_,h3,r,h1,h2,rfl,rfl⟩
  case callv =>
   split at h
   ·obtain ⟨r,h1,h2,h3⟩:=h
    exact ⟨_,_,h3,r,h1,h2,rfl,rfl⟩
   ·exact h.elim
  case callm f =>
   obtain ⟨l,as,ms,k,r,ms',k',h1,h2,h3,h4,h5⟩:=h
   exact ⟨_,_,h5,l,as,ms,k,r,ms',k',h1,h2,h3,h4,rfl,rfl⟩
  case callvm =>
   split at h
   ·obtain ⟨l,as,ms,k,r,ms',k',h1,h2,h3,h4,h5⟩:=h
    exact ⟨_,_,h5,l,as,ms,k,r,ms',k',h1,h2,h3,h4,rfl,rfl⟩
   ·exact h.elim
  all_goals
   split at h
   ·exact ⟨_,_,h.2.2,h.1,h.2.1,rfl,rfl⟩
   ·exact ⟨_,_,h.2.2,h.1,h.2.1,rfl,rfl⟩
theorem zdj8 {p:POp} {st:St} {K:A→List (Nat×MS)→Prop} (h:aopS C p st.toS st.nx K):aopS C p st.toS st.nx (fun v mw=>mwOk st.nx mw∧K v mw):=by
 unfold aopS at h ⊢
 simp only [St.toS] at h ⊢
 cases hg:zP4 st.slot p.g with
 | none=>simp [hg] at h
 | some g =>
  simp only [hg] at h ⊢
  cases hp:p.po <;> simp only [hp] at h ⊢
  case pick =>
   split at h
   ·split at h
    ·exact ⟨h.1,trivial,h.2⟩
    ·exact h.elim
   ·exact h.elim
  case call f =>
   obtain ⟨r,h1,h2,h3⟩:=h
   exact ⟨r,h1,h2,zbh0 st _ _,h3⟩
  case callv =>
   split at h
   ·obtain ⟨r,h1,h2,h3⟩:=h
    exact ⟨r,h1,h2,zbh0 st _ _,h3⟩
   ·exact h.elim
  case callm f=>exact zbG5 h
  case callvm =>
   split at h
   ·exact zbG5 h
   ·exact h.elim
  all_goals
   split at h
   ·rename_i ef hev
    obtain ⟨h1,h2,h3⟩:=h
    exact ⟨h1,h2,zcD2 hev,h3⟩
   ·exact ⟨h.1,h.2.1,trivial,h.2.2⟩
theorem zaV1 {m m2:Nat→MS} {x:A} (h:∀ y ∈ zbk4 x,m y=m2 y):frz1 m x=frz1 m2 x∧(zau6 m x ↔ zau6 m2 x):=by
 cases x <;> first|exact ⟨rfl,Iff.rfl⟩|skip
 rename_i y lo n
 have:=h y (by simp [zbk4,zaQ6])
 simp only [frz1,zau6,this,and_self]
theorem zbK3 {x:A}:∀ y ∈ zau7 x,y ∈ idsA x:=by
 cases x <;> intro y hy <;> first|(simp [zau7,zQ6] at hy; done)|skip
 ·rename_i z lo n; simpa [zau7,zQ6,idsA,zbk4,zaQ6] using hy
 ·rename_i cs
  simp only [zau7,idsA] at hy ⊢
  split at hy
  ·cases hy
  ·rename_i hp
   rw [if_neg hp]
   obtain ⟨c,hc,hy⟩:=List.mem_flatMap.1 hy
   refine List.mem_flatMap.2 ⟨c,hc,?_⟩
   cases c <;> simp [zQ6] at hy
   subst hy; simp [zbk4,zaQ6]
theorem zbZ1 {m m2:Nat→MS} {x:A} (h:∀ y ∈ idsA x,m y=m2 y):frz m x=frz m2 x∧(zaC0 m x ↔ zaC0 m2 x):=by
 cases x with
 | agg cs =>
  simp only [frz,zaC0]
  split
  ·exact ⟨rfl,Iff.rfl⟩
  ·rename_i hp
   simp only [idsA,if_neg hp] at h
   have h2:∀ c ∈ cs,∀ y ∈ zbk4 c,m y=m2 y:=fun c hc y hy=>h y (List.mem_flatMap.2 ⟨c,hc,hy⟩)
   exact ⟨by rw [List.map_congr_left fun c hc=>(zaV1 (h2 c hc)).1],⟨fun hh c hc=>(zaV1 (h2 c hc)).2.1 (hh c hc),fun hh c hc=>(zaV1 (h2 c hc)).2.2 (hh c hc)⟩⟩
 | own x lo n=>exact zaV1 (x:=.own x lo n) h
 | _=>exact ⟨rfl,Iff.rfl⟩
theorem zaV2 {m m2:Nat→MS}:∀ {xs:List A},(∀ y ∈ zE5 xs,m y=m2 y)→zR5 m xs=zR5 m2 xs∧(zG8 m xs ↔ zG8 m2 xs)
 | [],_=>⟨rfl,Iff.rfl⟩
 | x :: xs,h=>by
  obtain ⟨h1,h2⟩:=zbZ1 (x:=x) fun y hy=>h y (List.mem_append_left _ hy)
  obtain ⟨h3,h4⟩:=zaV2 (xs:=xs) fun y hy=>h y (List.mem_append_right _ hy)
  simp only [zR5,zG8,h1,h2,h3,h4,and_self]
theorem zaN1 {m m2:Nat→MS}:∀ {xs:List Nat},(∀ y ∈ xs,m y=m2 y)→zS3 m xs=zS3 m2 xs
 | [],_=>rfl
 | x :: xs,h=>by simp only [zS3,h x (.head _),zaN1 fun y hy=>h y (.tail _ hy)]
theorem zaP3:∀ {xs:List A},∀ y ∈ zG9 xs,y ∈ zE5 xs
 | x :: xs,y,hy=>by
  rcases List.mem_append.1 hy with h|h
  ·exact List.mem_append_left _ (zbK3 y h)
  ·exact List.mem_append_right _ (zaP3 y h)
theorem zcE2:∀ {vs as:List A},∀ y ∈ fzM vs as,y ∈ zE5 vs
 | v :: vs,a :: as,y,hy=>by
  rcases List.mem_append.1 hy with h|h
  ·split at h
   ·cases h
   ·exact List.mem_append_left _ (zbK3 y h)
  ·exact List.mem_append_right _ (zcE2 y h)
 | [],[],y,hy=>by cases hy
 | _ :: _,[],y,hy=>by cases hy
 | [],_ :: _,y,hy=>by cases hy
theorem zbB1 {m m2:Nat→MS} {l:List (Nat×Nat)} {k:Nat}:∀ {vs as:List A},(∀ y ∈ zE5 vs,m y=m2 y)→zbq5 m l k vs as→zbq5 m2 l k vs as
 | v :: vs,a :: as,h,h1=>by
  refine ⟨?_,zbB1 (fun y hy=>h y (List.mem_append_right _ hy)) h1.2⟩
  obtain ⟨h3,h4⟩:=zbZ1 (x:=v) fun y hy=>h y (List.mem_append_left _ hy)
  have h2:=h1.1
  unfold argM at h2 ⊢
  split
  ·rename_i hh; rw [if_pos hh] at h2; exact h2
  ·rename_i hh; rw [if_neg hh] at h2; exact ⟨h4.1 h2.1,h3 ▸ h2.2⟩
 | [],[],_,_=>trivial
 | _ :: _,[],_,h=>h.elim
 | [],_ :: _,_,h=>h.elim
theorem zbB2 {m m2:Nat→MS} {l:List (Nat×Nat)} {k:Nat} {fz:List Nat}:∀ {ms:List (Nat×Row)},(∀ q ∈ ms,m (rho l q.1)=m2 (rho l q.1))→zbX9 m l k fz ms→zbX9 m2 l k fz ms
 | [],_,_=>trivial
 | q :: ms,h,h1=>by
  obtain ⟨h2,h3,h4,h5,h6,h7⟩:=h1
  exact ⟨by rw [← h q (.head _)]; exact h2,h3,h4,h5,h6,zbB2 (fun p hp=>h p (.tail _ hp)) h7⟩
theorem zbm7 {L:List (Nat×Nat)} {ms':List (Nat×Row)}:∀ {ids:List Nat},∀ x ∈ ids,rho L x ∈ (zae9 L ms' ids).map (·.1)
 | y :: ids,x,h=>by
  rcases List.mem_cons.1 h with rfl|h
  ·exact .head _
  ·exact .tail _ (zbm7 x h)
theorem zbB3 {m m2:Nat→MS}:∀ {mw:List (Nat×MS)},(∀ y ∈ mw.map (·.1),m y=m2 y)→zbq6 m mw→zbq6 m2 mw
 | [],_,_=>trivial
 | q :: r,h,⟨h1,h3⟩=>⟨by rw [← h q.1 (.head _)]; exact h1,zbB3 (fun y hy=>h y (.tail _ hy)) h3⟩
theorem zbB4 {f:FuncId} {m m2:Nat→MS} {id:Nat} {vals:List A} {og:Option (Nat×Bool)} {g:Bool} {ob:Prop} {v:A} {mw:List (Nat×MS)} (h1:∀ y ∈ zE5 vals,m y=m2 y) (h2:∀ y ∈ mw.map (·.1),m y=m2 y)
  (h:zaM7 C m id f vals og g ob (fun n=>∀ x,id≤x→x < id+n→m x=.fresh) (fun v' mw'=>v'=v∧mw'=mw)) :
  zaM7 C m2 id f vals og g ob (fun n=>∀ x,id≤x→x < id+n→m2 x=.fresh) (fun v' mw'=>v'=v∧mw'=mw):=by
 obtain ⟨l,as,ms,k,r,ms',k',ht,hf,hvv,h5,h7,h8⟩:=h
 have e0:mwM m2 (l++newL k id (k' - k)) vals as ms ms' k k'=mw:=by rw [← h8,mwM,mwM,zaN1 fun y hy=>h1 y (zcE2 y hy)]
 refine ⟨l,as,ms,k,r,ms',k',fun hg=>?_,fun hg=>?_,hvv,h5,h7,e0⟩
 case refine_2 =>
  rw [e0]; rw [h8] at hf
  exact ⟨(hf hg).1,zbB3 h2 (hf hg).2⟩
 obtain ⟨hob,h3,h4,h6⟩:=ht hg
 obtain ⟨g1,g2,g3,g4,g5,g6,g7,g8⟩:=h4
 have hkk:k≤k':=Nat.le_of_ble_eq_true g6
 have key:∀ x ∈ ms.map (·.1)++(List.range (k' - k)).map (k+·),m (rho (l++newL k id (k' - k)) x)=m2 (rho (l++newL k id (k' - k)) x):=fun x hx=>by
  refine h2 _ ?_
  rw [← h8,mwM,List.map_append]
  exact List.mem_append_right _ (zbm7 x hx)
 have rhoOld:∀ x,x < k→rho (l++newL k id (k' - k)) x=rho l x:=fun x hx=>by
  simp only [rho,zaf0,zas8]
  rw [if_neg (by omega),Option.or_none]
 have rhoNew:∀ i,i < k' - k→rho (l++newL k id (k' - k)) (k+i)=id+i:=fun i hi=>by
  simp only [rho,zaf0,zas8]
  rw [zaQ0 fun q hq=>by have:=g8 q hq; omega,if_pos (by omega)]
  simp
 refine ⟨hob,h3,⟨zbB1 h1 g1,zbB2 (fun q hq=>?_) g2,g3,g4,g5,g6,g7,g8⟩,fun x hx hx2=>?_⟩
 ·have:=key q.1 (List.mem_append_left _ (List.mem_map.2 ⟨q,hq,rfl⟩))
  rwa [rhoOld q.1 (zaQ2 g2 q.1 q.2 hq).2.2.1] at this
 ·have:=key (k+(x - id)) (List.mem_append_right _ (List.mem_map.2 ⟨x - id,List.mem_range.2 (by omega),rfl⟩))
  rw [rhoNew _ (by omega),show id+(x - id)=x by omega] at this
  rw [← this]; exact h6 x hx hx2
theorem zbU4 (x y:List A):zE5 (x++y)=zE5 x++zE5 y:=by
 induction x with
 | nil=>rfl
 | cons a x ih=>simp only [List.cons_append,zE5,ih,List.append_assoc]
theorem zbB5 {y:Nat}:∀ {caps:List A},(∀ c ∈ caps,idsA c=zaQ6 c)→y ∈ zE5 caps→y ∈ caps.flatMap zaQ6
 | c :: cs,hc,h=>by
  rcases List.mem_append.1 h with h|h
  ·exact List.mem_flatMap.2 ⟨c,.head _,hc c (.head _) ▸ h⟩
  ·obtain ⟨d,hd,h2⟩:=List.mem_flatMap.1 (zbB5 (fun d hd=>hc d (.tail _ hd)) h)
   exact List.mem_flatMap.2 ⟨d,.tail _ hd,h2⟩
theorem zbB6 {f:FuncId} {caps vals:List A} {y:Nat} (h:y ∈ zE5 (vals++caps)) (hc:∀ c ∈ caps,idsA c=zaQ6 c):y ∈ zE5 (.clo f caps :: vals):=by
 rw [zbU4] at h
 simp only [zE5,List.mem_append]
 rcases List.mem_append.1 h with h|h
 ·exact .inr h
 ·exact .inl (zbB5 hc h)
theorem zcU2 {id:Nat} {m m2:Nat→MS} {po:PO} {vals:List A} (h:∀ y ∈ zE5 vals,m y=m2 y):ev id m po vals=ev id m2 po vals:=by
 have e1:∀ {x:A} {xs:List A},vals=x :: xs→(∀ y ∈ idsA x,m y=m2 y):=fun hv y hy=>h y (by rw [hv]; exact List.mem_append_left _ hy)
 have e2:∀ {x x2:A} {xs:List A},vals=x :: x2 :: xs→(∀ y ∈ idsA x2,m y=m2 y):=fun hv y hy=>h y (by rw [hv]; exact List.mem_append_right _ (List.mem_append_left _ hy))
 have own:∀ {x:Nat} {lo n:Nat} ,(∀ y ∈ idsA (.own x lo n),m y=m2 y)→m x=m2 x:=fun hh=>hh _ (by simp [idsA,zbk4,zaQ6])
 have ptr:∀ {x:Nat} {lo n:Nat} ,(∀ y ∈ idsA (.ptr x lo n),m y=m2 y)→m x=m2 x:=fun hh=>hh _ (by simp [idsA,zbk4,zaQ6])
 have hel:∀ {x:A},(∀ y ∈ idsA x,m y=m2 y)→zaF9 m x=zaF9 m2 x∧zal3 m x=zal3 m2 x:=fun {x} hh=>by
  cases x <;> first|exact ⟨rfl,rfl⟩|skip
  simp only [zaF9,zal3,own hh,and_self]
 have hsl:∀ {x:A} {sz:Nat} {lo hi mx:Option Int},(∀ y ∈ idsA x,m y=m2 y)→zax8 m sz x lo hi mx=zax8 m2 sz x lo hi mx:=fun {x sz lo hi mx} hh=>by
  cases x <;> cases mx <;> first|rfl|(simp only [zax8,own hh])
 cases po
 case slc sz lo hi mx =>
  rcases vals with _|⟨x,_|⟨x2,_|⟨x3,_|⟨x4,_|⟨x5,xs⟩⟩⟩⟩⟩
  ·cases lo <;> cases hi <;> cases mx <;> rfl
  ·have hx:=e1 rfl
   have:=fun {lo hi mx}=>hsl (sz:=sz) (lo:=lo) (hi:=hi) (mx:=mx) hx
   cases lo <;> cases hi <;> cases mx <;> first|rfl|(simp only [ev,this])
  ·have hx:=e1 rfl
   have:=fun {lo hi mx}=>hsl (sz:=sz) (lo:=lo) (hi:=hi) (mx:=mx) hx
   cases lo <;> cases hi <;> cases mx <;> cases x2 <;> first|rfl|(simp only [ev,this])
  ·have hx:=e1 rfl
   have:=fun {lo hi mx}=>hsl (sz:=sz) (lo:=lo) (hi:=hi) (mx:=mx) hx
   cases lo <;> cases hi <;> cases mx <;> cases x2 <;> cases x3 <;> first|rfl|(simp only [ev,this])
  ·have hx:=e1 rfl
   have:=fun {lo hi mx}=>hsl (sz:=sz) (lo:=lo) (hi:=hi) (mx:=mx) hx
   cases lo <;> cases hi <;> cases mx <;> first|rfl|(cases x2 <;> first|rfl|(cases x3 <;> first|rfl|(cases x4 <;> first|rfl|(simp only [ev,this]))))
  ·cases lo <;> cases hi <;> cases mx <;> first|rfl|(cases x2 <;> first|rfl|(cases x3 <;> first|rfl|(cases x4 <;> rfl)))
 case slcS lo hi =>
  rcases vals with _|⟨x,_|⟨x2,_|⟨x3,_|⟨x4,xs⟩⟩⟩⟩ <;> cases lo <;> cases hi <;> first|rfl|(cases x <;> first|rfl|(cases x2 <;> first|rfl|(cases x3 <;> rfl)))
 case cvS =>
  rcases vals with _|⟨x,_|⟨x2,xs⟩⟩ <;> first|rfl|skip
  obtain ⟨g1,g2⟩:=hel (e1 rfl)
  simp only [ev,g1,g2]
 case append sz bytes z =>
  rcases vals with _|⟨x,_|⟨x2,_|⟨x3,xs⟩⟩⟩ <;> first|rfl|skip
  have hx:=e1 rfl
  obtain ⟨g1,g2⟩:=hel (e2 rfl)
  simp only [ev,g1,g2]
  cases x <;> first|rfl|skip
  have e:=own hx
  simp only [e]
 case appc sz bytes =>
  rcases vals with _|⟨x,_|⟨x2,_|⟨x3,xs⟩⟩⟩ <;> first|rfl|skip
  have hx:=e1 rfl
  obtain ⟨g1,g2⟩:=hel (e2 rfl)
  simp only [ev,g1,g2]
  cases x <;> first|rfl|skip
  have e:=own hx
  simp only [e]
 case clear sz z =>
  rcases vals with _|⟨x,_|⟨x2,xs⟩⟩ <;> first|rfl|skip
  have hx:=e1 rfl
  simp only [ev]
  cases x <;> first|rfl|skip
  have e:=own hx
  simp only [e]
 case copy sz =>
  rcases vals with _|⟨x,_|⟨x2,_|⟨x3,xs⟩⟩⟩ <;> first|rfl|skip
  have hx:=e1 rfl
  obtain ⟨g1,g2⟩:=hel (e2 rfl)
  simp only [ev,g1,g2]
  cases x <;> first|rfl|skip
  have e:=own hx
  simp only [e]
 case load n ag =>
  rcases vals with _|⟨x,_|⟨x2,xs⟩⟩ <;> first|rfl|skip
  have hx:=e1 rfl
  cases x <;> first|rfl|skip
  have e:=ptr hx
  simp only [ev,e]
 case store n =>
  rcases vals with _|⟨x,_|⟨x2,_|⟨x3,xs⟩⟩⟩ <;> first|rfl|skip
  have hx:=e1 rfl
  cases x <;> first|rfl|skip
  have e:=ptr hx
  simp only [ev,e]
 case faddr off =>
  rcases vals with _|⟨x,_|⟨x2,xs⟩⟩ <;> first|rfl|skip
  have hx:=e1 rfl
  cases x <;> first|rfl|skip
  have e:=ptr hx
  simp only [ev,e]
 case nilck =>
  rcases vals with _|⟨x,_|⟨x2,xs⟩⟩ <;> first|rfl|skip
  have hx:=e1 rfl
  cases x <;> first|rfl|skip
  have e:=ptr hx
  simp only [ev,e]
 case len =>
  rcases vals with _|⟨x,_|⟨x2,xs⟩⟩ <;> first|rfl|skip
  have hx:=e1 rfl
  cases x <;> first|rfl|skip
  have e:=own hx
  simp only [ev,e]
 case iaA n sz =>
  rcases vals with _|⟨x,_|⟨x2,_|⟨x3,xs⟩⟩⟩ <;> first|rfl|(cases x2 <;> rfl)|skip
  have hx:=e1 rfl
  cases x2 <;> first|rfl|skip
  cases x <;> first|rfl|skip
  have e:=ptr hx
  simp only [ev,e]
 case iaS sz z =>
  rcases vals with _|⟨x,_|⟨x2,_|⟨x3,xs⟩⟩⟩ <;> first|rfl|(cases x2 <;> rfl)|skip
  have hx:=e1 rfl
  cases x2 <;> first|rfl|skip
  cases x <;> first|rfl|skip
  have e:=own hx
  simp only [ev,e]
 all_goals first
  | rfl
  | (rcases vals with _|⟨x,_|⟨x2,_|⟨x3,xs⟩⟩⟩ <;> first|rfl|(cases x <;> first|rfl|(cases x2 <;> rfl)))
theorem zbB7 {fr f2:Nat→A}:∀ (xs:List PX),(∀ t ∈ rdsX xs,fr t=f2 t)→zM0 C fr xs=zM0 C f2 xs∧(gdsF C fr xs ↔ gdsF C f2 xs)
 | [],_=>⟨rfl,Iff.rfl⟩
 | x :: xs,h=>by
  have h1:=zaC3 (x:=x) C.G (f:=fr) (g:=f2) fun t ht=>h t ((zQ8 x xs t).2 (.inl ht))
  obtain ⟨h2,h3⟩:=zbB7 xs fun t ht=>h t ((zQ8 x xs t).2 (.inr ht))
  simp only [zM0,gdsF,h1,h2,h3,and_self]
theorem zcv6 {p:POp} {s s2:S} {id:Nat} {v:A} {mw:List (Nat×MS)} (hr:∀ t ∈ p.rds,s.fr t=s2.fr t) (hm:∀ y ∈ zE5 (zM0 C s.fr p.xs),s.mem y=s2.mem y) (hw:∀ y ∈ mw.map (·.1),s.mem y=s2.mem y)
  (hcap:∀ f caps vals,(p.po=.callv∨p.po=.callvm)→zM0 C s.fr p.xs=.clo f caps :: vals→∀ c ∈ caps,idsA c=zaQ6 c)
  (h:aopS C p s id (fun v' mw'=>v'=v∧mw'=mw)):aopS C p s2 id (fun v' mw'=>v'=v∧mw'=mw):=by
 have hx:∀ t ∈ rdsX p.xs,s.fr t=s2.fr t:=fun t ht=>hr t (List.mem_append_right _ ht)
 obtain ⟨hv,hgd⟩:=zbB7 (C:=C) p.xs hx
 have hgo:zP4 s2.fr p.g=zP4 s.fr p.g:=by
  cases hg:p.g with
  | none=>rfl
  | some q=>simp only [zP4]; rw [hr q.1 (List.mem_append_left _ (by simp [hg]))]
 obtain ⟨hf1,hf2⟩:=zaV2 hm
 have hcm:∀ r,zM7 s.mem (zM0 C s.fr p.xs) r=zM7 s2.mem (zM0 C s.fr p.xs) r:=fun r=>by
  simp only [zM7,zaN1 fun y hy=>hm y (zaP3 y hy)]
 unfold aopS at h ⊢
 rw [hgo,← hv,← hgd]
 cases hg:zP4 s.fr p.g with
 | none=>simp [hg] at h
 | some g =>
  simp only [hg] at h ⊢
  cases hp:p.po <;> simp only [hp] at h ⊢
  case pick =>
   split at h
   ·rename_i c x y hxs
    simp only [hxs] at hx ⊢
    have e1:=zaC3 (x:=c) C.G (f:=s.fr) (g:=s2.fr) fun t ht=>hx t ((zQ8 _ _ _).2 (.inl ht))
    have e2:=zaC3 (x:=x) C.G (f:=s.fr) (g:=s2.fr) fun t ht=>hx t ((zQ8 _ _ _).2 (.inr ((zQ8 _ _ _).2 (.inl ht))))
    have e3:=zaC3 (x:=y) C.G (f:=s.fr) (g:=s2.fr) fun t ht=>hx t ((zQ8 _ _ _).2 (.inr ((zQ8 _ _ _).2 (.inr ht))))
    rw [← e1,← e2,← e3]
    exact h
   ·exact h.elim
  case call f =>
   rw [← hf1,← hf2]
   obtain ⟨r,h1,h2,h3⟩:=h
   exact ⟨r,h1,by rw [← hcm]; exact h2,by rw [← hcm]; exact h3⟩
  case callv =>
   split at h
   ·rename_i f caps vals hvals
    have hc:=hcap f caps vals (.inl hp) hvals
    have hm2:∀ y ∈ zE5 (vals++caps),s.mem y=s2.mem y:=fun y hy=>hm y (by rw [hvals]; exact zbB6 hy hc)
    obtain ⟨g1,g2⟩:=zaV2 hm2
    have hcm2:∀ r,zM7 s.mem (vals++caps) r=zM7 s2.mem (vals++caps) r:=fun r=>by
     simp only [zM7,zaN1 fun y hy=>hm2 y (zaP3 y hy)]
    obtain ⟨r,h1,h2,h3⟩:=h
    rw [← g1,← g2]
    exact ⟨r,h1,by rw [← hcm2]; exact h2,by rw [← hcm2]; exact h3⟩
   ·exact h.elim
  case callm f=>exact zbB4 hm hw h
  case callvm =>
   split at h
   ·rename_i f caps vals hvals
    have hc:=hcap f caps vals (.inr hp) hvals
    exact zbB4 (fun y hy=>hm y (by rw [hvals]; exact zbB6 hy hc)) hw h
   ·exact h.elim
  all_goals
   rw [← zcU2 (id:=id) hm]
   exact h
theorem zdw9 {id:Nat} {m:Nat→MS} {po:PO} {vals:List A} {ef:Ef} (h:ev id m po vals=some ef):id ∈ ef.mw.map (·.1)∨∀ id',ev id' m po vals=some ef:=by
 cases po
 case nilown sz z=>rcases vals with _|⟨x,_|⟨x2,xs⟩⟩ <;> cases h; exact .inl (by simp)
 case box n=>rcases vals with _|⟨x,_|⟨x2,xs⟩⟩ <;> cases h; exact .inl (by simp)
 case alloc n z=>rcases vals with _|⟨x,xs⟩ <;> cases h; exact .inl (by simp)
 case bown sz z=>simp only [ev,Option.some.injEq] at h; subst h; exact .inl (by simp)
 case mk sz b z =>
  rcases vals with _|⟨x,_|⟨x2,_|⟨x3,xs⟩⟩⟩ <;> first|(cases h; done)|(cases x <;> cases h; done)|skip
  ·cases x <;> cases x2 <;> cases h; exact .inl (by simp)
  ·cases x <;> cases x2 <;> cases h
 case append sz b z =>
  rcases vals with _|⟨x,_|⟨x2,_|⟨x3,xs⟩⟩⟩ <;> first|(cases h; done)|skip
  simp only [ev,Option.bind_eq_some_iff] at h
  obtain ⟨new,hnew,h⟩:=h
  cases x <;> simp only [] at h <;> first|(cases h; done)|skip
  ·cases h; exact .inl (by simp)
  ·split at h
   ·cases h; exact .inl (by simp)
   ·cases h
 case appc sz b =>
  rcases vals with _|⟨x,_|⟨x2,_|⟨x3,xs⟩⟩⟩ <;> first|(cases h; done)|skip
  simp only [ev,Option.bind_eq_some_iff] at h
  obtain ⟨new,hnew,h⟩:=h
  cases x <;> simp only [] at h <;> first|(cases h; done)|skip
  split at h
  ·cases h; exact .inl (by simp)
  ·cases h
 all_goals
  refine .inr fun id'=>?_
  rw [← h]
  first
   | rfl
   | (rename_i lo hi mx; cases lo <;> cases hi <;> cases mx <;> rcases vals with _|⟨x,_|⟨x2,_|⟨x3,_|⟨x4,_|⟨x5,xs⟩⟩⟩⟩⟩ <;> first|rfl|(cases x2 <;> first|rfl|(cases x3 <;> first|rfl|(cases x4 <;> rfl))))
   | (rename_i lo hi; cases lo <;> cases hi <;> rcases vals with _|⟨x,_|⟨x2,_|⟨x3,_|⟨x4,xs⟩⟩⟩⟩ <;> first|rfl|(cases x <;> first|rfl|(cases x2 <;> first|rfl|(cases x3 <;> rfl))))
   | (rcases vals with _|⟨x,_|⟨x2,_|⟨x3,xs⟩⟩⟩ <;> first|rfl|(cases x <;> first|rfl|(cases x2 <;> rfl))|(cases x2 <;> rfl))
theorem zdj9 {p:POp} {s:S} {id:Nat} {v:A} {mw:List (Nat×MS)} (h:aopS C p s id (fun v' mw'=>v'=v∧mw'=mw)):id ∈ mw.map (·.1)∨∀ id',id≤id'→aopS C p s id' (fun v' mw'=>v'=v∧mw'=mw):=by
 have cm:∀ {f:FuncId} {vals:List A} {og:Option (Nat×Bool)} {g:Bool} {ob:Prop},zaM7 C s.mem id f vals og g ob (fun n=>∀ x,id≤x→x < id+n→s.mem x=.fresh) (fun v' mw'=>v'=v∧mw'=mw) →
   id ∈ mw.map (·.1)∨∀ id',id≤id'→zaM7 C s.mem id' f vals og g ob (fun n=>∀ x,id'≤x→x < id'+n→s.mem x=.fresh) (fun v' mw'=>v'=v∧mw'=mw):=fun {f vals og g ob} h=>by
  obtain ⟨l,as,ms,k,r,ms',k',ht,hf,hvv,h5,h7,h8⟩:=h
  by_cases hk:k=k'
  ·have en:∀ id',newL k id' (k' - k)=[]:=fun id'=>by rw [hk,Nat.sub_self]; rfl
   simp only [en] at hf hvv h7 h8
   refine .inr fun id' hid=>⟨l,as,ms,k,r,ms',k',fun hg=>?_,?_⟩
   ·obtain ⟨hob,h3,h4,h6⟩:=ht hg
    obtain ⟨g1,g2,g3,g4,g5,g6,g7,g8⟩:=h4
    exact ⟨hob,h3,⟨g1,g2,g3,g4,g5,g6,fun q hq=>Nat.lt_of_lt_of_le (g7 q hq) hid,g8⟩,fun x hx hx2=>by omega⟩
   ·simp only [en]
    exact ⟨hf,hvv,h5,h7,h8⟩
  ·have hg:g=true:=by
    cases g with
    | true=>rfl
    | false=>exact absurd (hf rfl).1 hk
   obtain ⟨hob,h3,h4,h6⟩:=ht hg
   obtain ⟨g1,g2,g3,g4,g5,g6,g7,g8⟩:=h4
   have hkk:k≤k':=Nat.le_of_ble_eq_true g6
   left
   rw [← h8,mwM,List.map_append]
   refine List.mem_append_right _ ?_
   have:=zbm7 (L:=l++newL k id (k' - k)) (ms':=ms') (ids:=ms.map (·.1)++(List.range (k' - k)).map (k+·)) (k+0) (List.mem_append_right _ (List.mem_map.2 ⟨0,List.mem_range.2 (by omega),rfl⟩))
   have e:rho (l++newL k id (k' - k)) (k+0)=id+0:=by
    simp only [rho,zaf0,zas8]
    rw [zaQ0 fun q hq=>by have:=g8 q hq; omega,if_pos (by omega)]
    simp
   rw [e] at this
   exact this
 unfold aopS at h ⊢
 cases hg:zP4 s.fr p.g with
 | none=>simp [hg] at h
 | some g =>
  simp only [hg] at h ⊢
  cases hp:p.po <;> simp only [hp] at h ⊢
  case pick=>exact .inr fun _ _=>h
  case call f=>exact .inr fun _ _=>h
  case callv=>exact .inr fun _ _=>h
  case callm f =>
   exact cm h
  case callvm =>
   split at h
   ·exact cm h
   ·exact h.elim
  all_goals
   split at h
   ·rename_i ef hev
    obtain ⟨h1,h2,h3,h4⟩:=h
    rcases zdw9 hev with g1|g1
    ·exact .inl (h4 ▸ g1)
    ·exact .inr fun id' _=>by rw [g1 id']; exact ⟨h1,h2,h3,h4⟩
   ·rename_i hev
    exact .inr fun id' _=>by rw [← zdp9 (id:=id) h.2.1,hev]; exact h
end
end Ab
end Go.Proofs.YtcggeefhhegeoaaGreatDoor
