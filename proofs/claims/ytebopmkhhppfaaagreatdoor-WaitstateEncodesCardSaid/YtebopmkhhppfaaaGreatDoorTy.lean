import Derived.Test.YtebopmkhhppfaaaGreatDoorAb19
namespace Go.Proofs.YtebopmkhhppfaaaGreatDoor
namespace Ab
set_option linter.unusedSimpArgs false
theorem zao5 {a b:ByteArray}:a.toList=b.toList ↔ a=b:=by
 constructor
 ·intro h
  rw [ByteArray.toList_eq,ByteArray.toList_eq] at h
  cases a; cases b
  simp only [ByteArray.mk.injEq]
  exact Array.toList_inj.1 (by simpa using h)
 ·intro h; rw [h]
def eI (k:IntKind) (x:Int):List A:=[A.int k x]
def eB (x:Bool):List A:=[A.bool x]
def eS (x:ByteArray):List A:=[A.str x]
def eL {α:Type} (f:α→List A) (l:List α):List A:=[A.sl (l.map f)]
@[go_sem] theorem zfu8 (a:A):sub [a] 0 1=[a]:=rfl
@[go_sem] theorem zfu9 (a b:A):upd [a] 0 [b]=[b]:=rfl
@[go_sem] theorem zfc8 {α β:Type} (f:α→β) (l:List α) (n:Nat):(l.map f).take n=(l.take n).map f:=List.map_take.symm
@[go_sem] theorem zfc9 {α β:Type} (f:α→β) (l:List α) (n:Nat):(l.map f).drop n=(l.drop n).map f:=List.map_drop.symm
@[go_sem] theorem zeH9 {α β:Type} (f:α→β) (l m:List α):l.map f++m.map f=(l++m).map f:=List.map_append.symm
attribute [go_sem] List.take_of_length_le
@[go_sem] theorem zcx3 (c:List A) (cs:List (List A)):zK0 (c :: cs) ↔ zl2 c=true∧zK0 cs:=by
 constructor
 ·intro h
  refine ⟨?_,fun d hd=>h d (.tail _ hd)⟩
  have:=h c (.head _)
  clear h
  induction c with
  | nil=>rfl
  | cons a c ih=>simp only [zl2,Bool.and_eq_true]; exact ⟨this a (.head _),ih fun b hb=>this b (.tail _ hb)⟩
 ·rintro ⟨h1,h2⟩ d hd
  rcases List.mem_cons.1 hd with rfl|hd
  ·exact zF4 h1
  ·exact h2 d hd
@[go_sem] theorem zfa6:maxLen=9223372036854775807:=rfl
@[go_sem] theorem eI.getD (k:IntKind) (l:List Int) (i:Nat):(l.map (eI k)).getD i [A.int k 0]=[A.int k (l.getD i 0)]:=by
 simp only [List.getD_eq_getElem?_getD,List.getElem?_map]; cases l[i]? <;> rfl
@[go_sem] theorem eI.snoc (k:IntKind) (l:List Int) (x:Int):l.map (eI k)++[[A.int k x]]=(l++[x]).map (eI k):=by simp [eI]
@[go_sem] theorem eI.allLen (k:IntKind) (l:List Int):zF2 1 (l.map (eI k)):=by intro c hc; obtain ⟨x,_,rfl⟩:=List.mem_map.1 hc; rfl
@[go_sem] theorem eI.pureRows (k:IntKind) (l:List Int):zK0 (l.map (eI k)):=by intro c hc; obtain ⟨x,_,rfl⟩:=List.mem_map.1 hc; intro a ha; simp [eI] at ha; subst ha; rfl
@[go_sem] theorem eI.pureEs (k:IntKind) (l:List Int):pureEs (l.map (eI k))=true:=by induction l with
 | nil=>rfl
 | cons a l ih=>simpa [Ab.pureEs,zl2,A.pure1,eI] using ih
@[go_sem] theorem eB.getD (l:List Bool) (i:Nat):(l.map eB).getD i [A.bool false]=[A.bool (l.getD i false)]:=by
 simp only [List.getD_eq_getElem?_getD,List.getElem?_map]; cases l[i]? <;> rfl
@[go_sem] theorem eB.snoc (l:List Bool) (x:Bool):l.map eB++[[A.bool x]]=(l++[x]).map eB:=by simp [eB]
@[go_sem] theorem eB.pureRows (l:List Bool):zK0 (l.map eB):=by intro c hc; obtain ⟨x,_,rfl⟩:=List.mem_map.1 hc; intro a ha; simp [eB] at ha; subst ha; rfl
@[go_sem] theorem eB.pureEs (l:List Bool):pureEs (l.map eB)=true:=by induction l with
 | nil=>rfl
 | cons a l ih=>simpa [Ab.pureEs,zl2,A.pure1,eB] using ih
@[go_sem] theorem eL.getD {α:Type} (f:α→List A) (l:List (List α)) (i:Nat):(l.map (eL f)).getD i [A.sl (([]:List α).map f)]=[A.sl ((l.getD i []).map f)]:=by
 simp only [List.getD_eq_getElem?_getD,List.getElem?_map]; cases l[i]? <;> rfl
@[go_sem] theorem eL.getD0 {α:Type} (f:α→List A) (l:List (List α)) (i:Nat):(l.map (eL f)).getD i [A.sl []]=[A.sl ((l.getD i []).map f)]:=eL.getD f l i
@[ext] structure Arr (α:Type) (n:Nat) where
 l:List α
 h:l.length=n
instance {α:Type} [DecidableEq α] {n:Nat}:DecidableEq (Arr α n):=fun a b=>decidable_of_iff (a.l=b.l) (by rw [Arr.ext_iff])
def Arr.get {α:Type} {n:Nat} (a:Arr α n) (i:Nat) (z:α):α:=a.l.getD (zD5 i n) z
def Arr.put {α:Type} {n:Nat} (a:Arr α n) (i:Nat) (x:α):Arr α n:=⟨a.l.set (zD5 i n) x,by simp [a.h]⟩
def Arr.rep {α:Type} (n:Nat) (x:α):Arr α n:=⟨List.replicate n x,by simp⟩
def Arr.enc {α:Type} {n:Nat} (f:α→List A) (a:Arr α n):List A:=(a.l.map f).flatten
theorem zbC5 {α:Type} (f:α→List A) (sz:Nat) (hf:∀ x,(f x).length=sz):∀ l:List α,(l.map f).flatten.length=l.length * sz
 | []=>by simp
 | a :: l=>by simp only [List.map_cons,List.flatten_cons,List.length_append,hf,zbC5 f sz hf l,List.length_cons]; rw [Nat.add_mul]; omega
theorem zbM6 {α:Type} (f:α→List A) (sz:Nat) (hf:∀ x,(f x).length=sz) (z:α):∀ (l:List α) (i:Nat),i < l.length→sub (l.map f).flatten (i * sz) sz=f (l.getD i z)
 | [],i,h=>by simp at h
 | a :: l,0,_=>by simp [sub,hf a]
 | a :: l,i+1,h=>by
  have:=zbM6 f sz hf z l i (by simpa using h)
  simp only [sub,List.map_cons,List.flatten_cons,List.getD_cons_succ] at this ⊢
  rw [← this,List.drop_append,List.drop_eq_nil_of_le (by rw [hf,Nat.add_mul]; omega),hf,List.nil_append]
  congr 2
  rw [Nat.add_mul]; omega
theorem zbC6 {α:Type} (f:α→List A) (sz:Nat) (hf:∀ x,(f x).length=sz) (x:α):∀ (l:List α) (i:Nat),i < l.length→upd (l.map f).flatten (i * sz) (f x)=((l.set i x).map f).flatten
 | [],i,h=>by simp at h
 | a :: l,0,_=>by simp [upd,hf]
 | a :: l,i+1,h=>by
  have:=zbC6 f sz hf x l i (by simpa using h)
  simp only [upd,List.map_cons,List.flatten_cons,List.set_cons_succ] at this ⊢
  rw [← this]
  have e:(i+1) * sz=(f a).length+i * sz:=by rw [hf,Nat.add_mul]; omega
  rw [e,List.take_length_add_append,Nat.add_assoc,List.drop_length_add_append]
  simp [List.append_assoc]
@[go_sem] theorem Arr.enc_len {α:Type} {n:Nat} (f:α→List A) (a:Arr α n) (sz:Nat) (hf:∀ x,(f x).length=sz):(Arr.enc f a).length=n * sz:=by
 rw [Arr.enc,zbC5 f sz hf,a.h]
theorem zao6 {i n:Nat} (h:0 < n):zD5 i n < n:=by unfold zD5; split <;> omega
theorem zY9 {i n:Nat} (h:i < n):zD5 i n=i:=if_pos h
theorem zbH2 {α:Type} {n sz:Nat} (f:α→List A) (hf:∀ x,(f x).length=sz) (z:α) (a:Arr α (n+1)) (i:Nat):sub (Arr.enc f a) (zD5 i (n+1) * sz) sz=f (a.get i z):=zbM6 f sz hf z a.l _ (by rw [a.h]; exact zao6 (by omega))
theorem zbM7 {α:Type} {n sz:Nat} (f:α→List A) (hf:∀ x,(f x).length=sz) (a:Arr α (n+1)) (i:Nat) (x:α):upd (Arr.enc f a) (zD5 i (n+1) * sz) (f x)=Arr.enc f (a.put i x):=zbC6 f sz hf x a.l _ (by rw [a.h]; exact zao6 (by omega))
attribute [go_sem] zY9
@[go_sem] theorem zfa7 (i n:Nat):(zD5 i (n+1)≤n)=True:=by
 have:=zao6 (i:=i) (n:=n+1) (by omega)
 exact eq_true (by omega)
section
variable {n:Nat}
@[go_sem] theorem eI.alen (k:IntKind) (a:Arr Int n):(Arr.enc (eI k) a).length=n:=by rw [Arr.enc_len _ _ 1 (fun _=>rfl),Nat.mul_one]
@[go_sem] theorem eB.alen (a:Arr Bool n):(Arr.enc eB a).length=n:=by rw [Arr.enc_len _ _ 1 (fun _=>rfl),Nat.mul_one]
@[go_sem] theorem eI.aat (k:IntKind) (a:Arr Int (n+1)) (i:Nat):sub (Arr.enc (eI k) a) (zD5 i (n+1)) 1=[A.int k (a.get i 0)]:=by
 have:=zbH2 (eI k) (sz:=1) (fun _=>rfl) 0 a i; rwa [Nat.mul_one] at this
@[go_sem] theorem eI.aput (k:IntKind) (a:Arr Int (n+1)) (i:Nat) (x:Int):upd (Arr.enc (eI k) a) (zD5 i (n+1)) [A.int k x]=Arr.enc (eI k) (a.put i x):=by
 have:=zbM7 (eI k) (sz:=1) (fun _=>rfl) a i x; rwa [Nat.mul_one] at this
@[go_sem] theorem eI.aatc (k:IntKind) (a:Arr Int (n+1)) (i:Nat) (h:i < n+1):sub (Arr.enc (eI k) a) i 1=[A.int k (a.get i 0)]:=by
 have:=eI.aat k a i; rwa [zY9 h] at this
@[go_sem] theorem eI.aputc (k:IntKind) (a:Arr Int (n+1)) (i:Nat) (x:Int) (h:i < n+1):upd (Arr.enc (eI k) a) i [A.int k x]=Arr.enc (eI k) (a.put i x):=by
 have:=eI.aput k a i x; rwa [zY9 h] at this
@[go_sem] theorem eB.aat (a:Arr Bool (n+1)) (i:Nat):sub (Arr.enc eB a) (zD5 i (n+1)) 1=[A.bool (a.get i false)]:=by
 have:=zbH2 eB (sz:=1) (fun _=>rfl) false a i; rwa [Nat.mul_one] at this
@[go_sem] theorem eB.aat2 {m:Nat} (a:Arr (Arr Bool (m+1)) (n+1)) (i j:Nat):sub (Arr.enc (Arr.enc eB) a) (zD5 i (n+1) * (m+1)+zD5 j (m+1)) 1=[A.bool ((a.get i (Arr.rep (m+1) false)).get j false)]:=by
 have h1:=zbH2 (sz:=m+1) (Arr.enc eB) (fun x=>eB.alen x) (Arr.rep (m+1) false) a i
 have h2:=eB.aat (a.get i (Arr.rep (m+1) false)) j
 have hj:=zao6 (i:=j) (n:=m+1) (by omega)
 rw [← h2,← h1]
 simp only [sub,List.drop_take,List.take_take,List.drop_drop]
 congr 1; omega
@[go_sem] theorem zeI0 (i j n m k:Nat) (h:(n+1) * (m+1)≤k+1):(zD5 i (n+1) * (m+1)+zD5 j (m+1)≤k)=True:=by
 have h1:=zao6 (i:=i) (n:=n+1) (by omega)
 have h2:=zao6 (i:=j) (n:=m+1) (by omega)
 have h3:(zD5 i (n+1)+1) * (m+1)≤(n+1) * (m+1):=Nat.mul_le_mul_right _ h1
 rw [Nat.add_mul] at h3
 exact eq_true (by omega)
@[go_sem] theorem eB.aput (a:Arr Bool (n+1)) (i:Nat) (x:Bool):upd (Arr.enc eB a) (zD5 i (n+1)) [A.bool x]=Arr.enc eB (a.put i x):=by
 have:=zbM7 eB (sz:=1) (fun _=>rfl) a i x; rwa [Nat.mul_one] at this
@[go_sem] theorem eB.aputc (a:Arr Bool (n+1)) (i:Nat) (x:Bool) (h:i < n+1):upd (Arr.enc eB a) i [A.bool x]=Arr.enc eB (a.put i x):=by
 have:=eB.aput a i x; rwa [zY9 h] at this
@[go_sem] theorem eB.aall (a b:Arr Bool n):upd (Arr.enc eB a) 0 (Arr.enc eB b)=Arr.enc eB b:=by
 simp [upd,eB.alen]
@[go_sem] theorem eI.asub (k:IntKind) (a:Arr Int n):sub (Arr.enc (eI k) a) 0 n=Arr.enc (eI k) a:=by
 rw [sub,List.drop_zero,List.take_of_length_le (by rw [eI.alen]; exact Nat.le_refl _)]
@[go_sem] theorem eB.asub (a:Arr Bool n):sub (Arr.enc eB a) 0 n=Arr.enc eB a:=by
 rw [sub,List.drop_zero,List.take_of_length_le (by rw [eB.alen]; exact Nat.le_refl _)]
theorem zaF1 {α:Type} (f:α→List A) (hf:∀ x,zl2 (f x)=true):∀ l:List α,zl2 (l.map f).flatten=true
 | []=>rfl
 | a :: l=>by
  have h1:=hf a
  have h2:=zaF1 f hf l
  have:∀ x y:List A,zl2 x=true→zl2 y=true→zl2 (x++y)=true:=fun x y hx hy=>by
   induction x with
   | nil=>exact hy
   | cons c x ih=>simp only [zl2,Bool.and_eq_true,List.cons_append] at hx ⊢; exact ⟨hx.1,ih hx.2⟩
  simpa using this _ _ h1 h2
@[go_sem] theorem eI.apure (k:IntKind) (a:Arr Int n):zl2 (Arr.enc (eI k) a)=true:=zaF1 _ (fun _=>rfl) _
@[go_sem] theorem eB.apure (a:Arr Bool n):zl2 (Arr.enc eB a)=true:=zaF1 _ (fun _=>rfl) _
end
@[ext] structure Resource where
 name:ByteArray
 kind:Int
 units:Int
 home:Int
 deriving DecidableEq
def Resource.zero:Resource:=⟨⟨#[]⟩,0,0,0⟩
def Resource.enc (x:Resource):List A:=[A.str x.name]++[A.int .i64 x.kind]++[A.int .i64 x.units]++[A.int .i64 x.home]
@[go_sem] theorem Resource.len (x:Resource):(Resource.enc x).length=4:=by simp [Resource.enc]
@[go_sem] theorem Resource.pure (x:Resource):zl2 (Resource.enc x)=true:=by simp [zl2,A.pure1,Resource.enc]
@[go_sem] theorem Resource.sub_all (x:Resource):sub (Resource.enc x) 0 4=Resource.enc x:=by simp [sub,Resource.enc]
@[go_sem] theorem Resource.upd_all (x y:Resource):upd (Resource.enc x) 0 (Resource.enc y)=Resource.enc y:=by simp [upd,Resource.enc]
@[go_sem] theorem Resource.sub_name (x:Resource):sub (Resource.enc x) 0 1=[A.str x.name]:=by simp [sub,Resource.enc]
@[go_sem] theorem Resource.sub_kind (x:Resource):sub (Resource.enc x) 1 1=[A.int .i64 x.kind]:=by simp [sub,Resource.enc]
@[go_sem] theorem Resource.upd_kind (x:Resource) (v:Int):upd (Resource.enc x) 1 ([A.int .i64 v])=Resource.enc { x with kind:=v }:=by simp [upd,Resource.enc]
@[go_sem] theorem Resource.sub_units (x:Resource):sub (Resource.enc x) 2 1=[A.int .i64 x.units]:=by simp [sub,Resource.enc]
@[go_sem] theorem Resource.upd_units (x:Resource) (v:Int):upd (Resource.enc x) 2 ([A.int .i64 v])=Resource.enc { x with units:=v }:=by simp [upd,Resource.enc]
@[go_sem] theorem Resource.sub_home (x:Resource):sub (Resource.enc x) 3 1=[A.int .i64 x.home]:=by simp [sub,Resource.enc]
@[go_sem] theorem Resource.kinds (x:Resource):zp1 [.s,.i .i64,.i .i64,.i .i64] (Resource.enc x)=true:=by simp [zp1,LK.fits,Resource.enc]
@[go_sem] theorem Resource.eq (x y:Resource):eqA (Resource.enc x) (Resource.enc y)=decide (x=y):=by
 rw [Bool.eq_iff_iff]; simp [eqA,eq1,zao5,and_assoc,Resource.enc,Resource.ext_iff]
@[ext] structure Proc where
 site:Int
 inc:Int
 num:Int
 deriving DecidableEq
def Proc.zero:Proc:=⟨0,0,0⟩
def Proc.enc (x:Proc):List A:=[A.int .i64 x.site]++[A.int .i64 x.inc]++[A.int .i64 x.num]
@[go_sem] theorem Proc.len (x:Proc):(Proc.enc x).length=3:=by simp [Proc.enc]
@[go_sem] theorem Proc.pure (x:Proc):zl2 (Proc.enc x)=true:=by simp [zl2,A.pure1,Proc.enc]
@[go_sem] theorem Proc.scal (x:Proc):zam7 (Proc.enc x)=true:=by simp [zam7,A.scal1,Proc.enc]
@[go_sem] theorem Proc.sub_all (x:Proc):sub (Proc.enc x) 0 3=Proc.enc x:=by simp [sub,Proc.enc]
@[go_sem] theorem Proc.upd_all (x y:Proc):upd (Proc.enc x) 0 (Proc.enc y)=Proc.enc y:=by simp [upd,Proc.enc]
@[go_sem] theorem Proc.sub_site (x:Proc):sub (Proc.enc x) 0 1=[A.int .i64 x.site]:=by simp [sub,Proc.enc]
@[go_sem] theorem Proc.upd_site (x:Proc) (v:Int):upd (Proc.enc x) 0 ([A.int .i64 v])=Proc.enc { x with site:=v }:=by simp [upd,Proc.enc]
@[go_sem] theorem Proc.sub_inc (x:Proc):sub (Proc.enc x) 1 1=[A.int .i64 x.inc]:=by simp [sub,Proc.enc]
@[go_sem] theorem Proc.upd_inc (x:Proc) (v:Int):upd (Proc.enc x) 1 ([A.int .i64 v])=Proc.enc { x with inc:=v }:=by simp [upd,Proc.enc]
@[go_sem] theorem Proc.sub_num (x:Proc):sub (Proc.enc x) 2 1=[A.int .i64 x.num]:=by simp [sub,Proc.enc]
@[go_sem] theorem Proc.upd_num (x:Proc) (v:Int):upd (Proc.enc x) 2 ([A.int .i64 v])=Proc.enc { x with num:=v }:=by simp [upd,Proc.enc]
@[go_sem] theorem Proc.kinds (x:Proc):zp1 [.i .i64,.i .i64,.i .i64] (Proc.enc x)=true:=by simp [zp1,LK.fits,Proc.enc]
@[go_sem] theorem Proc.eq (x y:Proc):eqA (Proc.enc x) (Proc.enc y)=decide (x=y):=by
 rw [Bool.eq_iff_iff]; simp [eqA,eq1,zao5,and_assoc,Proc.enc,Proc.ext_iff]
@[go_sem] theorem Proc.allLen (l:List Proc):zF2 3 (l.map Proc.enc):=by intro c hc; obtain ⟨x,_,rfl⟩:=List.mem_map.1 hc; exact Proc.len x
@[go_sem] theorem Proc.pureRows (l:List Proc):zK0 (l.map Proc.enc):=by intro c hc; obtain ⟨x,_,rfl⟩:=List.mem_map.1 hc; exact zF4 (Proc.pure x)
@[go_sem] theorem Proc.pureEs (l:List Proc):pureEs (l.map Proc.enc)=true:=by induction l with
 | nil=>rfl
 | cons a l ih=>simp [Ab.pureEs,Proc.pure,ih]
@[go_sem] theorem Proc.getD (l:List Proc) (i:Nat):(l.map Proc.enc).getD i (Proc.enc Proc.zero)=Proc.enc (l.getD i Proc.zero):=by
 simp only [List.getD_eq_getElem?_getD,List.getElem?_map]; cases l[i]? <;> rfl
@[go_sem] theorem Proc.snoc (l:List Proc) (x:Proc):l.map Proc.enc++[Proc.enc x]=(l++[x]).map Proc.enc:=by simp
@[go_sem] theorem Proc.rep (n:Nat) (x:Proc):List.replicate n (Proc.enc x)=(List.replicate n x).map Proc.enc:=by simp
@[go_sem] theorem Proc.set (l:List Proc) (i:Nat) (x:Proc):(l.map Proc.enc).set i (Proc.enc x)=(l.set i x).map Proc.enc:=by simp [List.map_set]
@[ext] structure Amount where
 mode:Int
 units:Int
 deriving DecidableEq
def Amount.zero:Amount:=⟨0,0⟩
def Amount.enc (x:Amount):List A:=[A.int .i64 x.mode]++[A.int .i64 x.units]
@[go_sem] theorem Amount.len (x:Amount):(Amount.enc x).length=2:=by simp [Amount.enc]
@[go_sem] theorem Amount.pure (x:Amount):zl2 (Amount.enc x)=true:=by simp [zl2,A.pure1,Amount.enc]
@[go_sem] theorem Amount.sub_all (x:Amount):sub (Amount.enc x) 0 2=Amount.enc x:=by simp [sub,Amount.enc]
@[go_sem] theorem Amount.upd_all (x y:Amount):upd (Amount.enc x) 0 (Amount.enc y)=Amount.enc y:=by simp [upd,Amount.enc]
@[go_sem] theorem Amount.sub_mode (x:Amount):sub (Amount.enc x) 0 1=[A.int .i64 x.mode]:=by simp [sub,Amount.enc]
@[go_sem] theorem Amount.upd_mode (x:Amount) (v:Int):upd (Amount.enc x) 0 ([A.int .i64 v])=Amount.enc { x with mode:=v }:=by simp [upd,Amount.enc]
@[go_sem] theorem Amount.sub_units (x:Amount):sub (Amount.enc x) 1 1=[A.int .i64 x.units]:=by simp [sub,Amount.enc]
@[go_sem] theorem Amount.upd_units (x:Amount) (v:Int):upd (Amount.enc x) 1 ([A.int .i64 v])=Amount.enc { x with units:=v }:=by simp [upd,Amount.enc]
@[go_sem] theorem Amount.updl (x:Amount) (c0 c1:A) (cs:List A):upd (c0 :: c1 :: cs) 0 (Amount.enc x)=A.int .i64 x.mode :: A.int .i64 x.units :: cs:=by simp [upd,Nat.add_comm,Amount.enc]
@[go_sem] theorem Amount.kinds (x:Amount):zp1 [.i .i64,.i .i64] (Amount.enc x)=true:=by simp [zp1,LK.fits,Amount.enc]
@[go_sem] theorem Amount.eq (x y:Amount):eqA (Amount.enc x) (Amount.enc y)=decide (x=y):=by
 rw [Bool.eq_iff_iff]; simp [eqA,eq1,zao5,and_assoc,Amount.enc,Amount.ext_iff]
@[go_sem] theorem Amount.pureRows (l:List Amount):zK0 (l.map Amount.enc):=by intro c hc; obtain ⟨x,_,rfl⟩:=List.mem_map.1 hc; exact zF4 (Amount.pure x)
@[go_sem] theorem Amount.pureEs (l:List Amount):pureEs (l.map Amount.enc)=true:=by induction l with
 | nil=>rfl
 | cons a l ih=>simp [Ab.pureEs,Amount.pure,ih]
@[go_sem] theorem Amount.getD (l:List Amount) (i:Nat):(l.map Amount.enc).getD i (Amount.enc Amount.zero)=Amount.enc (l.getD i Amount.zero):=by
 simp only [List.getD_eq_getElem?_getD,List.getElem?_map]; cases l[i]? <;> rfl
@[go_sem] theorem Amount.snoc (l:List Amount) (x:Amount):l.map Amount.enc++[Amount.enc x]=(l++[x]).map Amount.enc:=by simp
@[ext] structure Hold where
 proc:Proc
 amount:Amount
 deriving DecidableEq
def Hold.zero:Hold:=⟨Proc.zero,Amount.zero⟩
def Hold.enc (x:Hold):List A:=Proc.enc x.proc++Amount.enc x.amount
@[go_sem] theorem Hold.len (x:Hold):(Hold.enc x).length=5:=by simp [Hold.enc,Proc.len,Amount.len]
@[go_sem] theorem Hold.pure (x:Hold):zl2 (Hold.enc x)=true:=by simp [zl2,A.pure1,Hold.enc,Amount.enc,Proc.enc]
@[go_sem] theorem Hold.sub_all (x:Hold):sub (Hold.enc x) 0 5=Hold.enc x:=by simp [sub,Hold.enc,Amount.enc,Proc.enc]
@[go_sem] theorem Hold.upd_all (x y:Hold):upd (Hold.enc x) 0 (Hold.enc y)=Hold.enc y:=by simp [upd,Hold.enc,Amount.enc,Proc.enc]
@[go_sem] theorem Hold.sub_proc (x:Hold):sub (Hold.enc x) 0 3=Proc.enc x.proc:=by simp [sub,Hold.enc,Amount.enc,Proc.enc]
@[go_sem] theorem Hold.upd_proc (x:Hold) (v:Proc):upd (Hold.enc x) 0 (Proc.enc v)=Hold.enc { x with proc:=v }:=by simp [upd,Hold.enc,Amount.enc,Proc.enc]
@[go_sem] theorem Hold.sub_amount (x:Hold):sub (Hold.enc x) 3 2=Amount.enc x.amount:=by simp [sub,Hold.enc,Amount.enc,Proc.enc]
@[go_sem] theorem Hold.upd_amount (x:Hold) (v:Amount):upd (Hold.enc x) 3 (Amount.enc v)=Hold.enc { x with amount:=v }:=by simp [upd,Hold.enc,Amount.enc,Proc.enc]
@[go_sem] theorem Hold.sub_amount_mode (x:Hold):sub (Hold.enc x) 3 1=[A.int .i64 x.amount.mode]:=by simp [sub,Hold.enc,Amount.enc,Proc.enc]
@[go_sem] theorem Hold.sub_amount_units (x:Hold):sub (Hold.enc x) 4 1=[A.int .i64 x.amount.units]:=by simp [sub,Hold.enc,Amount.enc,Proc.enc]
@[go_sem] theorem Hold.kinds (x:Hold):zp1 [.i .i64,.i .i64,.i .i64,.i .i64,.i .i64] (Hold.enc x)=true:=by simp [zp1,LK.fits,Hold.enc,Amount.enc,Proc.enc]
@[go_sem] theorem Hold.eq (x y:Hold):eqA (Hold.enc x) (Hold.enc y)=decide (x=y):=by
 rw [Bool.eq_iff_iff]; simp [eqA,eq1,zao5,and_assoc,Hold.enc,Amount.enc,Proc.enc,Hold.ext_iff,Amount.ext_iff,Proc.ext_iff]
@[go_sem] theorem Hold.allLen (l:List Hold):zF2 5 (l.map Hold.enc):=by intro c hc; obtain ⟨x,_,rfl⟩:=List.mem_map.1 hc; exact Hold.len x
@[go_sem] theorem Hold.pureRows (l:List Hold):zK0 (l.map Hold.enc):=by intro c hc; obtain ⟨x,_,rfl⟩:=List.mem_map.1 hc; exact zF4 (Hold.pure x)
@[go_sem] theorem Hold.pureEs (l:List Hold):pureEs (l.map Hold.enc)=true:=by induction l with
 | nil=>rfl
 | cons a l ih=>simp [Ab.pureEs,Hold.pure,ih]
@[go_sem] theorem Hold.getD (l:List Hold) (i:Nat):(l.map Hold.enc).getD i (Hold.enc Hold.zero)=Hold.enc (l.getD i Hold.zero):=by
 simp only [List.getD_eq_getElem?_getD,List.getElem?_map]; cases l[i]? <;> rfl
@[go_sem] theorem Hold.snoc (l:List Hold) (x:Hold):l.map Hold.enc++[Hold.enc x]=(l++[x]).map Hold.enc:=by simp
@[go_sem] theorem Hold.rep (n:Nat) (x:Hold):List.replicate n (Hold.enc x)=(List.replicate n x).map Hold.enc:=by simp
@[go_sem] theorem Hold.set (l:List Hold) (i:Nat) (x:Hold):(l.map Hold.enc).set i (Hold.enc x)=(l.set i x).map Hold.enc:=by simp [List.map_set]
@[ext] structure Wait where
 proc:Proc
 amount:Amount
 priority:Int
 passed:Int
 deriving DecidableEq
def Wait.zero:Wait:=⟨Proc.zero,Amount.zero,0,0⟩
def Wait.enc (x:Wait):List A:=Proc.enc x.proc++Amount.enc x.amount++[A.int .i64 x.priority]++[A.int .i64 x.passed]
@[go_sem] theorem Wait.len (x:Wait):(Wait.enc x).length=7:=by simp [Wait.enc,Proc.len,Amount.len]
@[go_sem] theorem Wait.pure (x:Wait):zl2 (Wait.enc x)=true:=by simp [zl2,A.pure1,Wait.enc,Amount.enc,Proc.enc]
@[go_sem] theorem Wait.sub_all (x:Wait):sub (Wait.enc x) 0 7=Wait.enc x:=by simp [sub,Wait.enc,Amount.enc,Proc.enc]
@[go_sem] theorem Wait.upd_all (x y:Wait):upd (Wait.enc x) 0 (Wait.enc y)=Wait.enc y:=by simp [upd,Wait.enc,Amount.enc,Proc.enc]
@[go_sem] theorem Wait.sub_proc (x:Wait):sub (Wait.enc x) 0 3=Proc.enc x.proc:=by simp [sub,Wait.enc,Amount.enc,Proc.enc]
@[go_sem] theorem Wait.upd_proc (x:Wait) (v:Proc):upd (Wait.enc x) 0 (Proc.enc v)=Wait.enc { x with proc:=v }:=by simp [upd,Wait.enc,Amount.enc,Proc.enc]
@[go_sem] theorem Wait.sub_amount (x:Wait):sub (Wait.enc x) 3 2=Amount.enc x.amount:=by simp [sub,Wait.enc,Amount.enc,Proc.enc]
@[go_sem] theorem Wait.upd_amount (x:Wait) (v:Amount):upd (Wait.enc x) 3 (Amount.enc v)=Wait.enc { x with amount:=v }:=by simp [upd,Wait.enc,Amount.enc,Proc.enc]
@[go_sem] theorem Wait.sub_amount_mode (x:Wait):sub (Wait.enc x) 3 1=[A.int .i64 x.amount.mode]:=by simp [sub,Wait.enc,Amount.enc,Proc.enc]
@[go_sem] theorem Wait.sub_amount_units (x:Wait):sub (Wait.enc x) 4 1=[A.int .i64 x.amount.units]:=by simp [sub,Wait.enc,Amount.enc,Proc.enc]
@[go_sem] theorem Wait.sub_priority (x:Wait):sub (Wait.enc x) 5 1=[A.int .i64 x.priority]:=by simp [sub,Wait.enc,Amount.enc,Proc.enc]
@[go_sem] theorem Wait.upd_priority (x:Wait) (v:Int):upd (Wait.enc x) 5 ([A.int .i64 v])=Wait.enc { x with priority:=v }:=by simp [upd,Wait.enc,Amount.enc,Proc.enc]
@[go_sem] theorem Wait.sub_passed (x:Wait):sub (Wait.enc x) 6 1=[A.int .i64 x.passed]:=by simp [sub,Wait.enc,Amount.enc,Proc.enc]
@[go_sem] theorem Wait.upd_passed (x:Wait) (v:Int):upd (Wait.enc x) 6 ([A.int .i64 v])=Wait.enc { x with passed:=v }:=by simp [upd,Wait.enc,Amount.enc,Proc.enc]
@[go_sem] theorem Wait.kinds (x:Wait):zp1 [.i .i64,.i .i64,.i .i64,.i .i64,.i .i64,.i .i64,.i .i64] (Wait.enc x)=true:=by simp [zp1,LK.fits,Wait.enc,Amount.enc,Proc.enc]
@[go_sem] theorem Wait.eq (x y:Wait):eqA (Wait.enc x) (Wait.enc y)=decide (x=y):=by
 rw [Bool.eq_iff_iff]; simp [eqA,eq1,zao5,and_assoc,Wait.enc,Amount.enc,Proc.enc,Wait.ext_iff,Amount.ext_iff,Proc.ext_iff]
@[go_sem] theorem Wait.allLen (l:List Wait):zF2 7 (l.map Wait.enc):=by intro c hc; obtain ⟨x,_,rfl⟩:=List.mem_map.1 hc; exact Wait.len x
@[go_sem] theorem Wait.pureRows (l:List Wait):zK0 (l.map Wait.enc):=by intro c hc; obtain ⟨x,_,rfl⟩:=List.mem_map.1 hc; exact zF4 (Wait.pure x)
@[go_sem] theorem Wait.pureEs (l:List Wait):pureEs (l.map Wait.enc)=true:=by induction l with
 | nil=>rfl
 | cons a l ih=>simp [Ab.pureEs,Wait.pure,ih]
@[go_sem] theorem Wait.getD (l:List Wait) (i:Nat):(l.map Wait.enc).getD i (Wait.enc Wait.zero)=Wait.enc (l.getD i Wait.zero):=by
 simp only [List.getD_eq_getElem?_getD,List.getElem?_map]; cases l[i]? <;> rfl
@[go_sem] theorem Wait.snoc (l:List Wait) (x:Wait):l.map Wait.enc++[Wait.enc x]=(l++[x]).map Wait.enc:=by simp
@[ext] structure Queue where
 resource:Resource
 holds:(List Hold)
 converts:(List Wait)
 waits:(List Wait)
 gen:Int
def Queue.zero:Queue:=⟨Resource.zero,[],[],[],0⟩
def Queue.enc (x:Queue):List A:=Resource.enc x.resource++[A.sl (x.holds.map Hold.enc)]++[A.sl (x.converts.map Wait.enc)]++[A.sl (x.waits.map Wait.enc)]++[A.int .i64 x.gen]
@[go_sem] theorem Queue.len (x:Queue):(Queue.enc x).length=8:=by simp [Queue.enc,Resource.len]
@[go_sem] theorem Queue.pure (x:Queue):zl2 (Queue.enc x)=true:=by simp [zl2,A.pure1,Queue.enc,Resource.enc]
@[go_sem] theorem Queue.sub_all (x:Queue):sub (Queue.enc x) 0 8=Queue.enc x:=by simp [sub,Queue.enc,Resource.enc]
@[go_sem] theorem Queue.upd_all (x y:Queue):upd (Queue.enc x) 0 (Queue.enc y)=Queue.enc y:=by simp [upd,Queue.enc,Resource.enc]
@[go_sem] theorem Queue.sub_resource (x:Queue):sub (Queue.enc x) 0 4=Resource.enc x.resource:=by simp [sub,Queue.enc,Resource.enc]
@[go_sem] theorem Queue.sub_resource_name (x:Queue):sub (Queue.enc x) 0 1=[A.str x.resource.name]:=by simp [sub,Queue.enc,Resource.enc]
@[go_sem] theorem Queue.sub_holds (x:Queue):sub (Queue.enc x) 4 1=[A.sl (x.holds.map Hold.enc)]:=by simp [sub,Queue.enc,Resource.enc]
@[go_sem] theorem Queue.sub_converts (x:Queue):sub (Queue.enc x) 5 1=[A.sl (x.converts.map Wait.enc)]:=by simp [sub,Queue.enc,Resource.enc]
@[go_sem] theorem Queue.sub_waits (x:Queue):sub (Queue.enc x) 6 1=[A.sl (x.waits.map Wait.enc)]:=by simp [sub,Queue.enc,Resource.enc]
@[go_sem] theorem Queue.sub_gen (x:Queue):sub (Queue.enc x) 7 1=[A.int .i64 x.gen]:=by simp [sub,Queue.enc,Resource.enc]
@[go_sem] theorem Queue.upd_lit (x:Queue) (c0 c1 c2 c3 c4 c5 c6 c7:A):upd (Queue.enc x) 0 [c0,c1,c2,c3,c4,c5,c6,c7]=[c0,c1,c2,c3,c4,c5,c6,c7]:=by simp [upd,Queue.enc,Resource.enc]
@[go_sem] theorem Queue.pureRows (l:List Queue):zK0 (l.map Queue.enc):=by intro c hc; obtain ⟨x,_,rfl⟩:=List.mem_map.1 hc; exact zF4 (Queue.pure x)
@[go_sem] theorem Queue.pureEs (l:List Queue):pureEs (l.map Queue.enc)=true:=by induction l with
 | nil=>rfl
 | cons a l ih=>simp [Ab.pureEs,Queue.pure,ih]
@[go_sem] theorem Queue.getD (l:List Queue) (i:Nat):(l.map Queue.enc).getD i (Queue.enc Queue.zero)=Queue.enc (l.getD i Queue.zero):=by
 simp only [List.getD_eq_getElem?_getD,List.getElem?_map]; cases l[i]? <;> rfl
@[go_sem] theorem Queue.snoc (l:List Queue) (x:Queue):l.map Queue.enc++[Queue.enc x]=(l++[x]).map Queue.enc:=by simp
@[ext] structure Atom where
 name:ByteArray
 amount:Amount
 deriving DecidableEq
def Atom.zero:Atom:=⟨⟨#[]⟩,Amount.zero⟩
def Atom.enc (x:Atom):List A:=[A.str x.name]++Amount.enc x.amount
@[go_sem] theorem Atom.len (x:Atom):(Atom.enc x).length=3:=by simp [Atom.enc,Amount.len]
@[go_sem] theorem Atom.pure (x:Atom):zl2 (Atom.enc x)=true:=by simp [zl2,A.pure1,Atom.enc,Amount.enc]
@[go_sem] theorem Atom.sub_all (x:Atom):sub (Atom.enc x) 0 3=Atom.enc x:=by simp [sub,Atom.enc,Amount.enc]
@[go_sem] theorem Atom.upd_all (x y:Atom):upd (Atom.enc x) 0 (Atom.enc y)=Atom.enc y:=by simp [upd,Atom.enc,Amount.enc]
@[go_sem] theorem Atom.sub_name (x:Atom):sub (Atom.enc x) 0 1=[A.str x.name]:=by simp [sub,Atom.enc,Amount.enc]
@[go_sem] theorem Atom.upd_name (x:Atom) (v:ByteArray):upd (Atom.enc x) 0 ([A.str v])=Atom.enc { x with name:=v }:=by simp [upd,Atom.enc,Amount.enc]
@[go_sem] theorem Atom.sub_amount (x:Atom):sub (Atom.enc x) 1 2=Amount.enc x.amount:=by simp [sub,Atom.enc,Amount.enc]
@[go_sem] theorem Atom.upd_amount (x:Atom) (v:Amount):upd (Atom.enc x) 1 (Amount.enc v)=Atom.enc { x with amount:=v }:=by simp [upd,Atom.enc,Amount.enc]
@[go_sem] theorem Atom.kinds (x:Atom):zp1 [.s,.i .i64,.i .i64] (Atom.enc x)=true:=by simp [zp1,LK.fits,Atom.enc,Amount.enc]
@[go_sem] theorem Atom.eq (x y:Atom):eqA (Atom.enc x) (Atom.enc y)=decide (x=y):=by
 rw [Bool.eq_iff_iff]; simp [eqA,eq1,zao5,and_assoc,Atom.enc,Amount.enc,Atom.ext_iff,Amount.ext_iff]
@[go_sem] theorem Atom.pureRows (l:List Atom):zK0 (l.map Atom.enc):=by intro c hc; obtain ⟨x,_,rfl⟩:=List.mem_map.1 hc; exact zF4 (Atom.pure x)
@[go_sem] theorem Atom.pureEs (l:List Atom):pureEs (l.map Atom.enc)=true:=by induction l with
 | nil=>rfl
 | cons a l ih=>simp [Ab.pureEs,Atom.pure,ih]
@[go_sem] theorem Atom.getD (l:List Atom) (i:Nat):(l.map Atom.enc).getD i (Atom.enc Atom.zero)=Atom.enc (l.getD i Atom.zero):=by
 simp only [List.getD_eq_getElem?_getD,List.getElem?_map]; cases l[i]? <;> rfl
@[go_sem] theorem Atom.snoc (l:List Atom) (x:Atom):l.map Atom.enc++[Atom.enc x]=(l++[x]).map Atom.enc:=by simp
@[ext] structure Expr where
 k:Int
 atom:Atom
 kids:(List Expr)
def Expr.zero:Expr:=⟨0,Atom.zero,[]⟩
def Expr.enc (x:Expr):List A:=[A.int .i64 x.k]++Atom.enc x.atom++[A.sl (x.kids.map Expr.enc)]
termination_by _root_.SizeOf.sizeOf x
decreasing_by
 rename_i h
 have h2:=List.sizeOf_lt_of_mem h
 cases x
 simp at h2 ⊢
 omega
@[simp] theorem Expr.enc_mk (k:Int) (atom:Atom) (kids:(List Expr)):Expr.enc ⟨k,atom,kids⟩=[A.int .i64 k,A.str atom.name,A.int .i64 atom.amount.mode,A.int .i64 atom.amount.units,A.sl (kids.map Expr.enc)]:=by simp [Expr.enc,Amount.enc,Atom.enc]
@[simp] theorem Expr.zero_k:Expr.zero.k=0:=rfl
@[simp] theorem Expr.zero_atom_name:Expr.zero.atom.name=⟨#[]⟩:=rfl
@[simp] theorem Expr.zero_atom_amount_mode:Expr.zero.atom.amount.mode=0:=rfl
@[simp] theorem Expr.zero_atom_amount_units:Expr.zero.atom.amount.units=0:=rfl
@[simp] theorem Expr.zero_kids:Expr.zero.kids=[]:=rfl
theorem Expr.enc_cells (x:Expr):[A.int .i64 x.k,A.str x.atom.name,A.int .i64 x.atom.amount.mode,A.int .i64 x.atom.amount.units,A.sl (x.kids.map Expr.enc)]=Expr.enc x:=by simp [Expr.enc,Amount.enc,Atom.enc]
@[go_sem] theorem Expr.len (x:Expr):(Expr.enc x).length=5:=by simp [Expr.enc,Atom.len]
@[go_sem] theorem Expr.pure (x:Expr):zl2 (Expr.enc x)=true:=by simp [zl2,A.pure1,Expr.enc,Amount.enc,Atom.enc]
@[go_sem] theorem Expr.sub_all (x:Expr):sub (Expr.enc x) 0 5=Expr.enc x:=by simp [sub,Expr.enc,Amount.enc,Atom.enc]
@[go_sem] theorem Expr.upd_all (x y:Expr):upd (Expr.enc x) 0 (Expr.enc y)=Expr.enc y:=by simp [upd,Expr.enc,Amount.enc,Atom.enc]
@[go_sem] theorem Expr.sub_k (x:Expr):sub (Expr.enc x) 0 1=[A.int .i64 x.k]:=by simp [sub,Expr.enc,Amount.enc,Atom.enc]
@[go_sem] theorem Expr.sub_atom (x:Expr):sub (Expr.enc x) 1 3=Atom.enc x.atom:=by simp [sub,Expr.enc,Amount.enc,Atom.enc]
@[go_sem] theorem Expr.upd_atom (x:Expr) (v:Atom):upd (Expr.enc x) 1 (Atom.enc v)=Expr.enc { x with atom:=v }:=by simp [upd,Expr.enc,Amount.enc,Atom.enc]
@[go_sem] theorem Expr.sub_atom_name (x:Expr):sub (Expr.enc x) 1 1=[A.str x.atom.name]:=by simp [sub,Expr.enc,Amount.enc,Atom.enc]
@[go_sem] theorem Expr.sub_atom_amount (x:Expr):sub (Expr.enc x) 2 2=Amount.enc x.atom.amount:=by simp [sub,Expr.enc,Amount.enc,Atom.enc]
@[go_sem] theorem Expr.sub_atom_amount_mode (x:Expr):sub (Expr.enc x) 2 1=[A.int .i64 x.atom.amount.mode]:=by simp [sub,Expr.enc,Amount.enc,Atom.enc]
@[go_sem] theorem Expr.sub_atom_amount_units (x:Expr):sub (Expr.enc x) 3 1=[A.int .i64 x.atom.amount.units]:=by simp [sub,Expr.enc,Amount.enc,Atom.enc]
@[go_sem] theorem Expr.sub_kids (x:Expr):sub (Expr.enc x) 4 1=[A.sl (x.kids.map Expr.enc)]:=by simp [sub,Expr.enc,Amount.enc,Atom.enc]
@[go_sem] theorem Expr.upd_lit (x:Expr) (c0 c1 c2 c3 c4:A):upd (Expr.enc x) 0 [c0,c1,c2,c3,c4]=[c0,c1,c2,c3,c4]:=by simp [upd,Expr.enc,Amount.enc,Atom.enc]
@[go_sem] theorem Expr.updo_kids (x:Expr) (y lo k:Nat):upd (Expr.enc x) 4 [A.own y lo k]=[A.int .i64 x.k,A.str x.atom.name,A.int .i64 x.atom.amount.mode,A.int .i64 x.atom.amount.units,A.own y lo k]:=by simp [upd,Expr.enc,Amount.enc,Atom.enc]
@[go_sem] theorem Expr.pureRows (l:List Expr):zK0 (l.map Expr.enc):=by intro c hc; obtain ⟨x,_,rfl⟩:=List.mem_map.1 hc; exact zF4 (Expr.pure x)
@[go_sem] theorem Expr.pureEs (l:List Expr):pureEs (l.map Expr.enc)=true:=by induction l with
 | nil=>rfl
 | cons a l ih=>simp [Ab.pureEs,Expr.pure,ih]
@[go_sem] theorem Expr.getD (l:List Expr) (i:Nat):(l.map Expr.enc).getD i (Expr.enc Expr.zero)=Expr.enc (l.getD i Expr.zero):=by
 simp only [List.getD_eq_getElem?_getD,List.getElem?_map]; cases l[i]? <;> rfl
@[go_sem] theorem Expr.snoc (l:List Expr) (x:Expr):l.map Expr.enc++[Expr.enc x]=(l++[x]).map Expr.enc:=by simp
@[ext] structure Need where
 proc:Proc
 expr:Expr
 gen:Int
def Need.zero:Need:=⟨Proc.zero,Expr.zero,0⟩
def Need.enc (x:Need):List A:=Proc.enc x.proc++Expr.enc x.expr++[A.int .i64 x.gen]
@[simp] theorem Need.enc_mk (proc:Proc) (expr:Expr) (gen:Int):Need.enc ⟨proc,expr,gen⟩=[A.int .i64 proc.site,A.int .i64 proc.inc,A.int .i64 proc.num,A.int .i64 expr.k,A.str expr.atom.name,A.int .i64 expr.atom.amount.mode,A.int .i64 expr.atom.amount.units,A.sl (expr.kids.map Expr.enc),A.int .i64 gen]:=by simp [Need.enc,Amount.enc,Atom.enc,Expr.enc,Proc.enc]
@[simp] theorem Need.zero_proc_site:Need.zero.proc.site=0:=rfl
@[simp] theorem Need.zero_proc_inc:Need.zero.proc.inc=0:=rfl
@[simp] theorem Need.zero_proc_num:Need.zero.proc.num=0:=rfl
@[simp] theorem Need.zero_expr_k:Need.zero.expr.k=0:=rfl
@[simp] theorem Need.zero_expr_atom_name:Need.zero.expr.atom.name=⟨#[]⟩:=rfl
@[simp] theorem Need.zero_expr_atom_amount_mode:Need.zero.expr.atom.amount.mode=0:=rfl
@[simp] theorem Need.zero_expr_atom_amount_units:Need.zero.expr.atom.amount.units=0:=rfl
@[simp] theorem Need.zero_expr_kids:Need.zero.expr.kids=[]:=rfl
@[simp] theorem Need.zero_gen:Need.zero.gen=0:=rfl
@[go_sem] theorem Need.len (x:Need):(Need.enc x).length=9:=by simp [Need.enc,Proc.len,Expr.len]
@[go_sem] theorem Need.pure (x:Need):zl2 (Need.enc x)=true:=by simp [zl2,A.pure1,Need.enc,Amount.enc,Atom.enc,Expr.enc,Proc.enc]
@[go_sem] theorem Need.sub_all (x:Need):sub (Need.enc x) 0 9=Need.enc x:=by simp [sub,Need.enc,Amount.enc,Atom.enc,Expr.enc,Proc.enc]
@[go_sem] theorem Need.upd_all (x y:Need):upd (Need.enc x) 0 (Need.enc y)=Need.enc y:=by simp [upd,Need.enc,Amount.enc,Atom.enc,Expr.enc,Proc.enc]
@[go_sem] theorem Need.sub_proc (x:Need):sub (Need.enc x) 0 3=Proc.enc x.proc:=by simp [sub,Need.enc,Amount.enc,Atom.enc,Expr.enc,Proc.enc]
@[go_sem] theorem Need.upd_proc (x:Need) (v:Proc):upd (Need.enc x) 0 (Proc.enc v)=Need.enc { x with proc:=v }:=by simp [upd,Need.enc,Amount.enc,Atom.enc,Expr.enc,Proc.enc]
@[go_sem] theorem Need.sub_expr (x:Need):sub (Need.enc x) 3 5=Expr.enc x.expr:=by simp [sub,Need.enc,Amount.enc,Atom.enc,Expr.enc,Proc.enc]
@[go_sem] theorem Need.upd_expr (x:Need) (v:Expr):upd (Need.enc x) 3 (Expr.enc v)=Need.enc { x with expr:=v }:=by simp [upd,Need.enc,Amount.enc,Atom.enc,Expr.enc,Proc.enc]
@[go_sem] theorem Need.sub_gen (x:Need):sub (Need.enc x) 8 1=[A.int .i64 x.gen]:=by simp [sub,Need.enc,Amount.enc,Atom.enc,Expr.enc,Proc.enc]
@[go_sem] theorem Need.upd_gen (x:Need) (v:Int):upd (Need.enc x) 8 ([A.int .i64 v])=Need.enc { x with gen:=v }:=by simp [upd,Need.enc,Amount.enc,Atom.enc,Expr.enc,Proc.enc]
@[go_sem] theorem Need.pureRows (l:List Need):zK0 (l.map Need.enc):=by intro c hc; obtain ⟨x,_,rfl⟩:=List.mem_map.1 hc; exact zF4 (Need.pure x)
@[go_sem] theorem Need.pureEs (l:List Need):pureEs (l.map Need.enc)=true:=by induction l with
 | nil=>rfl
 | cons a l ih=>simp [Ab.pureEs,Need.pure,ih]
@[go_sem] theorem Need.getD (l:List Need) (i:Nat):(l.map Need.enc).getD i (Need.enc Need.zero)=Need.enc (l.getD i Need.zero):=by
 simp only [List.getD_eq_getElem?_getD,List.getElem?_map]; cases l[i]? <;> rfl
@[go_sem] theorem Need.snoc (l:List Need) (x:Need):l.map Need.enc++[Need.enc x]=(l++[x]).map Need.enc:=by simp
@[ext] structure WaitState where
 queues:(List Queue)
 needs:(List Need)
def WaitState.zero:WaitState:=⟨[],[]⟩
def WaitState.enc (x:WaitState):List A:=[A.sl (x.queues.map Queue.enc)]++[A.sl (x.needs.map Need.enc)]
@[go_sem] theorem WaitState.len (x:WaitState):(WaitState.enc x).length=2:=by simp [WaitState.enc]
@[go_sem] theorem WaitState.pure (x:WaitState):zl2 (WaitState.enc x)=true:=by simp [zl2,A.pure1,WaitState.enc]
@[go_sem] theorem WaitState.sub_all (x:WaitState):sub (WaitState.enc x) 0 2=WaitState.enc x:=by simp [sub,WaitState.enc]
@[go_sem] theorem WaitState.upd_all (x y:WaitState):upd (WaitState.enc x) 0 (WaitState.enc y)=WaitState.enc y:=by simp [upd,WaitState.enc]
@[go_sem] theorem WaitState.sub_queues (x:WaitState):sub (WaitState.enc x) 0 1=[A.sl (x.queues.map Queue.enc)]:=by simp [sub,WaitState.enc]
@[go_sem] theorem WaitState.sub_needs (x:WaitState):sub (WaitState.enc x) 1 1=[A.sl (x.needs.map Need.enc)]:=by simp [sub,WaitState.enc]
@[go_sem] theorem WaitState.upd_lit (x:WaitState) (c0 c1:A):upd (WaitState.enc x) 0 [c0,c1]=[c0,c1]:=by simp [upd,WaitState.enc]
@[ext] structure waitstateReader where
 rest:(List Int)
 err:Int
def waitstateReader.zero:waitstateReader:=⟨[],0⟩
def waitstateReader.enc (x:waitstateReader):List A:=[A.sl (x.rest.map (eI .u8))]++[A.int .i64 x.err]
@[go_sem] theorem waitstateReader.len (x:waitstateReader):(waitstateReader.enc x).length=2:=by simp [waitstateReader.enc]
@[go_sem] theorem waitstateReader.upd_rest (x:waitstateReader) (v:(List Int)):upd (waitstateReader.enc x) 0 ([A.sl (v.map (eI .u8))])=waitstateReader.enc { x with rest:=v }:=by simp [upd,waitstateReader.enc]
@[ext] structure decoder where
 reader:waitstateReader
def decoder.zero:decoder:=⟨waitstateReader.zero⟩
def decoder.enc (x:decoder):List A:=waitstateReader.enc x.reader
@[go_sem] theorem decoder.len (x:decoder):(decoder.enc x).length=2:=by simp [decoder.enc,waitstateReader.len]
@[go_sem] theorem decoder.pure (x:decoder):zl2 (decoder.enc x)=true:=by simp [zl2,A.pure1,decoder.enc,waitstateReader.enc]
@[go_sem] theorem decoder.sub_reader_rest (x:decoder):sub (decoder.enc x) 0 1=[A.sl (x.reader.rest.map (eI .u8))]:=by simp [sub,decoder.enc,waitstateReader.enc]
@[go_sem] theorem decoder.upd_reader_rest (x:decoder) (v:(List Int)):upd (decoder.enc x) 0 ([A.sl (v.map (eI .u8))])=decoder.enc { x with reader:={ x.reader with rest:=v } }:=by simp [upd,decoder.enc,waitstateReader.enc]
@[go_sem] theorem decoder.sub_reader_err (x:decoder):sub (decoder.enc x) 1 1=[A.int .i64 x.reader.err]:=by simp [sub,decoder.enc,waitstateReader.enc]
@[go_sem] theorem decoder.upd_reader_err (x:decoder) (v:Int):upd (decoder.enc x) 1 ([A.int .i64 v])=decoder.enc { x with reader:={ x.reader with err:=v } }:=by simp [upd,decoder.enc,waitstateReader.enc]
@[ext] structure ref16Reader where
 b:(List Int)
 at_:Int
 e:Int
def ref16Reader.zero:ref16Reader:=⟨[],0,0⟩
def ref16Reader.enc (x:ref16Reader):List A:=[A.sl (x.b.map (eI .u8))]++[A.int .i64 x.at_]++[A.int .i64 x.e]
@[go_sem] theorem ref16Reader.len (x:ref16Reader):(ref16Reader.enc x).length=3:=by simp [ref16Reader.enc]
@[go_sem] theorem ref16Reader.pure (x:ref16Reader):zl2 (ref16Reader.enc x)=true:=by simp [zl2,A.pure1,ref16Reader.enc]
@[go_sem] theorem ref16Reader.sub_b (x:ref16Reader):sub (ref16Reader.enc x) 0 1=[A.sl (x.b.map (eI .u8))]:=by simp [sub,ref16Reader.enc]
@[go_sem] theorem ref16Reader.upd_b (x:ref16Reader) (v:(List Int)):upd (ref16Reader.enc x) 0 ([A.sl (v.map (eI .u8))])=ref16Reader.enc { x with b:=v }:=by simp [upd,ref16Reader.enc]
@[go_sem] theorem ref16Reader.sub_at_ (x:ref16Reader):sub (ref16Reader.enc x) 1 1=[A.int .i64 x.at_]:=by simp [sub,ref16Reader.enc]
@[go_sem] theorem ref16Reader.upd_at_ (x:ref16Reader) (v:Int):upd (ref16Reader.enc x) 1 ([A.int .i64 v])=ref16Reader.enc { x with at_:=v }:=by simp [upd,ref16Reader.enc]
@[go_sem] theorem ref16Reader.sub_e (x:ref16Reader):sub (ref16Reader.enc x) 2 1=[A.int .i64 x.e]:=by simp [sub,ref16Reader.enc]
@[go_sem] theorem ref16Reader.upd_e (x:ref16Reader) (v:Int):upd (ref16Reader.enc x) 2 ([A.int .i64 v])=ref16Reader.enc { x with e:=v }:=by simp [upd,ref16Reader.enc]
attribute [simp] Expr.enc_cells
end Ab
end Go.Proofs.YtebopmkhhppfaaaGreatDoor
