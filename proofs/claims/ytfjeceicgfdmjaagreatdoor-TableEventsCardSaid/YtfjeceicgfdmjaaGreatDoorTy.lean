/-
  The program's plain data types,and their cells.
-/
import Derived.Test.YtfjeceicgfdmjaaGreatDoorAb19
namespace Go.Proofs.YtfjeceicgfdmjaaGreatDoor
namespace Ab
set_option linter.unusedSimpArgs false
theorem zR9 {a b:ByteArray}:a.toList=b.toList ↔ a=b:=by
 constructor
 ·intro h
  rw [ByteArray.toList_eq,ByteArray.toList_eq] at h
  cases a; cases b
  simp only [ByteArray.mk.injEq]
  exact Array.toList_inj.1 (by simpa using h)
 ·intro h; rw [h]
def eI (k:IntKind) (x:Int):List A:=[A.int k x]
def eB (x:Bool):List A:=[A.bool x]
def eS (x:ByteArray):List A:=[A.str x]
def eL {α:Type} (f:α→List A) (l:List α):List A:=[A.sl (l.map f)]
@[go_sem] theorem zeT2 (a:A):sub [a] 0 1=[a]:=rfl
@[go_sem] theorem zeT3 (a b:A):upd [a] 0 [b]=[b]:=rfl
@[go_sem] theorem zen1 {α β:Type} (f:α→β) (l:List α) (n:Nat):(l.map f).take n=(l.take n).map f:=List.map_take.symm
@[go_sem] theorem zen2 {α β:Type} (f:α→β) (l:List α) (n:Nat):(l.map f).drop n=(l.drop n).map f:=List.map_drop.symm
@[go_sem] theorem zdW7 {α β:Type} (f:α→β) (l m:List α):l.map f++m.map f=(l++m).map f:=List.map_append.symm
attribute [go_sem] List.take_of_length_le
@[go_sem] theorem zch0 (c:List A) (cs:List (List A)):zs5 (c :: cs) ↔ zg5 c=true∧zs5 cs:=by
 constructor
 ·intro h
  refine ⟨?_,fun d hd=>h d (.tail _ hd)⟩
  have:=h c (.head _)
  clear h
  induction c with
  | nil=>rfl
  | cons a c ih=>simp only [zg5,Bool.and_eq_true]; exact ⟨this a (.head _),ih fun b hb=>this b (.tail _ hb)⟩
 ·rintro ⟨h1,h2⟩ d hd
  rcases List.mem_cons.1 hd with rfl | hd
  ·exact zt9 h1
  ·exact h2 d hd
@[go_sem] theorem zel3:maxLen=9223372036854775807:=rfl
@[go_sem] theorem eI.getD (k:IntKind) (l:List Int) (i:Nat):(l.map (eI k)).getD i [A.int k 0]=[A.int k (l.getD i 0)]:=by
 simp only [List.getD_eq_getElem?_getD,List.getElem?_map]; cases l[i]? <;> rfl
@[go_sem] theorem eI.snoc (k:IntKind) (l:List Int) (x:Int):l.map (eI k)++[[A.int k x]]=(l++[x]).map (eI k):=by simp [eI]
@[go_sem] theorem eI.set (k:IntKind) (l:List Int) (i:Nat) (x:Int):(l.map (eI k)).set i [A.int k x]=(l.set i x).map (eI k):=by simp [List.map_set,eI]
@[go_sem] theorem eI.rep (k:IntKind) (n:Nat) (x:Int):List.replicate n [A.int k x]=(List.replicate n x).map (eI k):=by simp [eI]
@[go_sem] theorem eI.allLen (k:IntKind) (l:List Int):zg4 1 (l.map (eI k)):=by intro c hc; obtain ⟨x,_,rfl⟩:=List.mem_map.1 hc; rfl
@[go_sem] theorem eI.pureRows (k:IntKind) (l:List Int):zs5 (l.map (eI k)):=by intro c hc; obtain ⟨x,_,rfl⟩:=List.mem_map.1 hc; intro a ha; simp [eI] at ha; subst ha; rfl
@[go_sem] theorem eI.pureEs (k:IntKind) (l:List Int):pureEs (l.map (eI k))=true:=by induction l with
 | nil=>rfl
 | cons a l ih=>simpa [Ab.pureEs,zg5,A.pure1,eI] using ih
@[go_sem] theorem eB.getD (l:List Bool) (i:Nat):(l.map eB).getD i [A.bool false]=[A.bool (l.getD i false)]:=by
 simp only [List.getD_eq_getElem?_getD,List.getElem?_map]; cases l[i]? <;> rfl
@[go_sem] theorem eB.snoc (l:List Bool) (x:Bool):l.map eB++[[A.bool x]]=(l++[x]).map eB:=by simp [eB]
@[go_sem] theorem eB.set (l:List Bool) (i:Nat) (x:Bool):(l.map eB).set i [A.bool x]=(l.set i x).map eB:=by simp [List.map_set,eB]
@[go_sem] theorem eB.rep (n:Nat) (x:Bool):List.replicate n [A.bool x]=(List.replicate n x).map eB:=by simp [eB]
@[go_sem] theorem eB.allLen (l:List Bool):zg4 1 (l.map eB):=by intro c hc; obtain ⟨x,_,rfl⟩:=List.mem_map.1 hc; rfl
@[go_sem] theorem eB.pureRows (l:List Bool):zs5 (l.map eB):=by intro c hc; obtain ⟨x,_,rfl⟩:=List.mem_map.1 hc; intro a ha; simp [eB] at ha; subst ha; rfl
@[go_sem] theorem eB.pureEs (l:List Bool):pureEs (l.map eB)=true:=by induction l with
 | nil=>rfl
 | cons a l ih=>simpa [Ab.pureEs,zg5,A.pure1,eB] using ih
@[go_sem] theorem eS.getD (l:List ByteArray) (i:Nat):(l.map eS).getD i [A.str ⟨#[]⟩]=[A.str (l.getD i ⟨#[]⟩)]:=by
 simp only [List.getD_eq_getElem?_getD,List.getElem?_map]; cases l[i]? <;> rfl
@[go_sem] theorem eS.snoc (l:List ByteArray) (x:ByteArray):l.map eS++[[A.str x]]=(l++[x]).map eS:=by simp [eS]
@[go_sem] theorem eS.set (l:List ByteArray) (i:Nat) (x:ByteArray):(l.map eS).set i [A.str x]=(l.set i x).map eS:=by simp [List.map_set,eS]
@[go_sem] theorem eS.rep (n:Nat) (x:ByteArray):List.replicate n [A.str x]=(List.replicate n x).map eS:=by simp [eS]
@[go_sem] theorem eS.allLen (l:List ByteArray):zg4 1 (l.map eS):=by intro c hc; obtain ⟨x,_,rfl⟩:=List.mem_map.1 hc; rfl
@[go_sem] theorem eS.pureRows (l:List ByteArray):zs5 (l.map eS):=by intro c hc; obtain ⟨x,_,rfl⟩:=List.mem_map.1 hc; intro a ha; simp [eS] at ha; subst ha; rfl
@[go_sem] theorem eS.pureEs (l:List ByteArray):pureEs (l.map eS)=true:=by induction l with
 | nil=>rfl
 | cons a l ih=>simpa [Ab.pureEs,zg5,A.pure1,eS] using ih
@[go_sem] theorem eL.getD {α:Type} (f:α→List A) (l:List (List α)) (i:Nat):(l.map (eL f)).getD i [A.sl (([]:List α).map f)]=[A.sl ((l.getD i []).map f)]:=by
 simp only [List.getD_eq_getElem?_getD,List.getElem?_map]; cases l[i]? <;> rfl
@[go_sem] theorem eL.getD0 {α:Type} (f:α→List A) (l:List (List α)) (i:Nat):(l.map (eL f)).getD i [A.sl []]=[A.sl ((l.getD i []).map f)]:=eL.getD f l i
@[go_sem] theorem eL.snoc {α:Type} (f:α→List A) (l:List (List α)) (x:List α):l.map (eL f)++[[A.sl (x.map f)]]=(l++[x]).map (eL f):=by simp [eL]
@[go_sem] theorem eL.allLen {α:Type} (f:α→List A) (l:List (List α)):zg4 1 (l.map (eL f)):=by intro c hc; obtain ⟨x,_,rfl⟩:=List.mem_map.1 hc; rfl
@[go_sem] theorem eL.pureRows {α:Type} (f:α→List A) (l:List (List α)):zs5 (l.map (eL f)):=by intro c hc; obtain ⟨x,_,rfl⟩:=List.mem_map.1 hc; intro a ha; simp [eL] at ha; subst ha; rfl
@[go_sem] theorem eL.pureEs {α:Type} (f:α→List A) (l:List (List α)):pureEs (l.map (eL f))=true:=by induction l with
 | nil=>rfl
 | cons a l ih=>simpa [Ab.pureEs,zg5,A.pure1,eL] using ih
@[ext] structure Arr (α:Type) (n:Nat) where
 l:List α
 h:l.length=n
instance {α:Type} [DecidableEq α] {n:Nat}:DecidableEq (Arr α n):=fun a b=>decidable_of_iff (a.l=b.l) (by rw [Arr.ext_iff])
def Arr.get {α:Type} {n:Nat} (a:Arr α n) (i:Nat) (z:α):α:=a.l.getD (zr2 i n) z
def Arr.put {α:Type} {n:Nat} (a:Arr α n) (i:Nat) (x:α):Arr α n:=⟨a.l.set (zr2 i n) x,by simp [a.h]⟩
def Arr.rep {α:Type} (n:Nat) (x:α):Arr α n:=⟨List.replicate n x,by simp⟩
def Arr.enc {α:Type} {n:Nat} (f:α→List A) (a:Arr α n):List A:=(a.l.map f).flatten
theorem zbs0 {α:Type} (f:α→List A) (sz:Nat) (hf:∀ x,(f x).length=sz):∀ l:List α,(l.map f).flatten.length=l.length * sz
 | []=>by simp
 | a :: l=>by simp only [List.map_cons,List.flatten_cons,List.length_append,hf,zbs0 f sz hf l,List.length_cons]; rw [Nat.add_mul]; omega
theorem zbE5 {α:Type} (f:α→List A) (sz:Nat) (hf:∀ x,(f x).length=sz) (z:α):∀ (l:List α) (i:Nat),i < l.length→sub (l.map f).flatten (i * sz) sz=f (l.getD i z)
 | [],i,h=>by simp at h
 | a :: l,0,_=>by simp [sub,hf a]
 | a :: l,i+1,h=>by
  have:=zbE5 f sz hf z l i (by simpa using h)
  simp only [sub,List.map_cons,List.flatten_cons,List.getD_cons_succ] at this ⊢
  rw [← this,List.drop_append,List.drop_eq_nil_of_le (by rw [hf,Nat.add_mul]; omega),hf,List.nil_append]
  congr 2
  rw [Nat.add_mul]; omega
theorem zbs1 {α:Type} (f:α→List A) (sz:Nat) (hf:∀ x,(f x).length=sz) (x:α):∀ (l:List α) (i:Nat),i < l.length→upd (l.map f).flatten (i * sz) (f x)=((l.set i x).map f).flatten
 | [],i,h=>by simp at h
 | a :: l,0,_=>by simp [upd,hf]
 | a :: l,i+1,h=>by
  have:=zbs1 f sz hf x l i (by simpa using h)
  simp only [upd,List.map_cons,List.flatten_cons,List.set_cons_succ] at this ⊢
  rw [← this]
  have e:(i+1) * sz=(f a).length+i * sz:=by rw [hf,Nat.add_mul]; omega
  rw [e,List.take_length_add_append,Nat.add_assoc,List.drop_length_add_append]
  simp [List.append_assoc]
@[go_sem] theorem Arr.enc_len {α:Type} {n:Nat} (f:α→List A) (a:Arr α n) (sz:Nat) (hf:∀ x,(f x).length=sz):(Arr.enc f a).length=n * sz:=by
 rw [Arr.enc,zbs0 f sz hf,a.h]
theorem zab8 {i n:Nat} (h:0 < n):zr2 i n < n:=by unfold zr2; split <;> omega
theorem zz4 {i n:Nat} (h:i < n):zr2 i n=i:=if_pos h
theorem zbl4 {α:Type} {n sz:Nat} (f:α→List A) (hf:∀ x,(f x).length=sz) (z:α) (a:Arr α (n+1)) (i:Nat):sub (Arr.enc f a) (zr2 i (n+1) * sz) sz=f (a.get i z):=zbE5 f sz hf z a.l _ (by rw [a.h]; exact zab8 (by omega))
theorem zbl5 {α:Type} {n sz:Nat} (f:α→List A) (hf:∀ x,(f x).length=sz) (a:Arr α (n+1)) (i:Nat) (x:α):upd (Arr.enc f a) (zr2 i (n+1) * sz) (f x)=Arr.enc f (a.put i x):=zbs1 f sz hf x a.l _ (by rw [a.h]; exact zab8 (by omega))
attribute [go_sem] zz4
@[go_sem] theorem zel4 (i n:Nat):(zr2 i (n+1)≤n)=True:=by
 have:=zab8 (i:=i) (n:=n+1) (by omega)
 exact eq_true (by omega)
section
variable {n:Nat}
@[go_sem] theorem eI.alen (k:IntKind) (a:Arr Int n):(Arr.enc (eI k) a).length=n:=by rw [Arr.enc_len _ _ 1 (fun _=>rfl),Nat.mul_one]
@[go_sem] theorem eB.alen (a:Arr Bool n):(Arr.enc eB a).length=n:=by rw [Arr.enc_len _ _ 1 (fun _=>rfl),Nat.mul_one]
@[go_sem] theorem eS.alen (a:Arr ByteArray n):(Arr.enc eS a).length=n:=by rw [Arr.enc_len _ _ 1 (fun _=>rfl),Nat.mul_one]
@[go_sem] theorem eI.aat (k:IntKind) (a:Arr Int (n+1)) (i:Nat):sub (Arr.enc (eI k) a) (zr2 i (n+1)) 1=[A.int k (a.get i 0)]:=by
 have:=zbl4 (eI k) (sz:=1) (fun _=>rfl) 0 a i; rwa [Nat.mul_one] at this
@[go_sem] theorem eI.aput (k:IntKind) (a:Arr Int (n+1)) (i:Nat) (x:Int):upd (Arr.enc (eI k) a) (zr2 i (n+1)) [A.int k x]=Arr.enc (eI k) (a.put i x):=by
 have:=zbl5 (eI k) (sz:=1) (fun _=>rfl) a i x; rwa [Nat.mul_one] at this
@[go_sem] theorem eI.aatc (k:IntKind) (a:Arr Int (n+1)) (i:Nat) (h:i < n+1):sub (Arr.enc (eI k) a) i 1=[A.int k (a.get i 0)]:=by
 have:=eI.aat k a i; rwa [zz4 h] at this
@[go_sem] theorem eI.aputc (k:IntKind) (a:Arr Int (n+1)) (i:Nat) (x:Int) (h:i < n+1):upd (Arr.enc (eI k) a) i [A.int k x]=Arr.enc (eI k) (a.put i x):=by
 have:=eI.aput k a i x; rwa [zz4 h] at this
@[go_sem] theorem eB.aat (a:Arr Bool (n+1)) (i:Nat):sub (Arr.enc eB a) (zr2 i (n+1)) 1=[A.bool (a.get i false)]:=by
 have:=zbl4 eB (sz:=1) (fun _=>rfl) false a i; rwa [Nat.mul_one] at this
@[go_sem] theorem eB.aat2 {m:Nat} (a:Arr (Arr Bool (m+1)) (n+1)) (i j:Nat):sub (Arr.enc (Arr.enc eB) a) (zr2 i (n+1) * (m+1)+zr2 j (m+1)) 1=[A.bool ((a.get i (Arr.rep (m+1) false)).get j false)]:=by
 have h1:=zbl4 (sz:=m+1) (Arr.enc eB) (fun x=>eB.alen x) (Arr.rep (m+1) false) a i
 have h2:=eB.aat (a.get i (Arr.rep (m+1) false)) j
 have hj:=zab8 (i:=j) (n:=m+1) (by omega)
 rw [← h2,← h1]
 simp only [sub,List.drop_take,List.take_take,List.drop_drop]
 congr 1; omega
@[go_sem] theorem zdW8 (i j n m k:Nat) (h:(n+1) * (m+1)≤k+1):(zr2 i (n+1) * (m+1)+zr2 j (m+1)≤k)=True:=by
 have h1:=zab8 (i:=i) (n:=n+1) (by omega)
 have h2:=zab8 (i:=j) (n:=m+1) (by omega)
 have h3:(zr2 i (n+1)+1) * (m+1)≤(n+1) * (m+1):=Nat.mul_le_mul_right _ h1
 rw [Nat.add_mul] at h3
 exact eq_true (by omega)
@[go_sem] theorem eB.aput (a:Arr Bool (n+1)) (i:Nat) (x:Bool):upd (Arr.enc eB a) (zr2 i (n+1)) [A.bool x]=Arr.enc eB (a.put i x):=by
 have:=zbl5 eB (sz:=1) (fun _=>rfl) a i x; rwa [Nat.mul_one] at this
@[go_sem] theorem eB.aatc (a:Arr Bool (n+1)) (i:Nat) (h:i < n+1):sub (Arr.enc eB a) i 1=[A.bool (a.get i false)]:=by
 have:=eB.aat a i; rwa [zz4 h] at this
@[go_sem] theorem eB.aputc (a:Arr Bool (n+1)) (i:Nat) (x:Bool) (h:i < n+1):upd (Arr.enc eB a) i [A.bool x]=Arr.enc eB (a.put i x):=by
 have:=eB.aput a i x; rwa [zz4 h] at this
@[go_sem] theorem eS.aat (a:Arr ByteArray (n+1)) (i:Nat):sub (Arr.enc eS a) (zr2 i (n+1)) 1=[A.str (a.get i ⟨#[]⟩)]:=by
 have:=zbl4 eS (sz:=1) (fun _=>rfl) ⟨#[]⟩ a i; rwa [Nat.mul_one] at this
@[go_sem] theorem eS.aput (a:Arr ByteArray (n+1)) (i:Nat) (x:ByteArray):upd (Arr.enc eS a) (zr2 i (n+1)) [A.str x]=Arr.enc eS (a.put i x):=by
 have:=zbl5 eS (sz:=1) (fun _=>rfl) a i x; rwa [Nat.mul_one] at this
@[go_sem] theorem eS.aatc (a:Arr ByteArray (n+1)) (i:Nat) (h:i < n+1):sub (Arr.enc eS a) i 1=[A.str (a.get i ⟨#[]⟩)]:=by
 have:=eS.aat a i; rwa [zz4 h] at this
@[go_sem] theorem eS.aputc (a:Arr ByteArray (n+1)) (i:Nat) (x:ByteArray) (h:i < n+1):upd (Arr.enc eS a) i [A.str x]=Arr.enc eS (a.put i x):=by
 have:=eS.aput a i x; rwa [zz4 h] at this
@[go_sem] theorem eI.aall (k:IntKind) (a b:Arr Int n):upd (Arr.enc (eI k) a) 0 (Arr.enc (eI k) b)=Arr.enc (eI k) b:=by
 simp [upd,eI.alen]
@[go_sem] theorem eB.aall (a b:Arr Bool n):upd (Arr.enc eB a) 0 (Arr.enc eB b)=Arr.enc eB b:=by
 simp [upd,eB.alen]
@[go_sem] theorem eI.asub (k:IntKind) (a:Arr Int n):sub (Arr.enc (eI k) a) 0 n=Arr.enc (eI k) a:=by
 rw [sub,List.drop_zero,List.take_of_length_le (by rw [eI.alen]; exact Nat.le_refl _)]
@[go_sem] theorem eB.asub (a:Arr Bool n):sub (Arr.enc eB a) 0 n=Arr.enc eB a:=by
 rw [sub,List.drop_zero,List.take_of_length_le (by rw [eB.alen]; exact Nat.le_refl _)]
theorem zas4 {α:Type} (f:α→List A) (hf:∀ x,zg5 (f x)=true):∀ l:List α,zg5 (l.map f).flatten=true
 | []=>rfl
 | a :: l=>by
  have h1:=hf a
  have h2:=zas4 f hf l
  have:∀ x y:List A,zg5 x=true→zg5 y=true→zg5 (x++y)=true:=fun x y hx hy=>by
   induction x with
   | nil=>exact hy
   | cons c x ih=>simp only [zg5,Bool.and_eq_true,List.cons_append] at hx ⊢; exact ⟨hx.1,ih hx.2⟩
  simpa using this _ _ h1 h2
@[go_sem] theorem eI.apure (k:IntKind) (a:Arr Int n):zg5 (Arr.enc (eI k) a)=true:=zas4 _ (fun _=>rfl) _
@[go_sem] theorem eB.apure (a:Arr Bool n):zg5 (Arr.enc eB a)=true:=zas4 _ (fun _=>rfl) _
end
@[go_sem] theorem zeU7 {α:Type} (f:α→List A) (l:List (List α)) (i:Nat) (x:List α):(l.map (eL f)).set i [A.sl (x.map f)]=(l.set i x).map (eL f):=by simp [List.map_set,eL]
@[go_sem] theorem zeU8 {α:Type} (f:α→List A) (n:Nat):(List.replicate n ([]:List α)).map (eL f)=List.replicate n [A.sl []]:=by simp [eL]
@[go_sem] theorem zdW9 (n:Nat):pureEs (List.replicate n [A.sl []])=true:=by
 induction n with
 | zero=>rfl
 | succ n ih=>simp [List.replicate_succ,Ab.pureEs,zg5,A.pure1,ih]
@[ext] structure Proc where
 site:Int
 inc:Int
 num:Int
 deriving DecidableEq
def Proc.zero:Proc:=⟨0,0,0⟩
def Proc.enc (x:Proc):List A:=[A.int .i64 x.site]++[A.int .i64 x.inc]++[A.int .i64 x.num]
@[go_sem] theorem Proc.len (x:Proc):(Proc.enc x).length=3:=by simp [Proc.enc]
@[go_sem] theorem Proc.pure (x:Proc):zg5 (Proc.enc x)=true:=by simp [zg5,A.pure1,Proc.enc]
@[go_sem] theorem Proc.scal (x:Proc):zz3 (Proc.enc x)=true:=by simp [zz3,A.scal1,Proc.enc]
@[go_sem] theorem Proc.sub_all (x:Proc):sub (Proc.enc x) 0 3=Proc.enc x:=by simp [sub,Proc.enc]
@[go_sem] theorem Proc.upd_all (x y:Proc):upd (Proc.enc x) 0 (Proc.enc y)=Proc.enc y:=by simp [upd,Proc.enc]
@[go_sem] theorem Proc.sub_site (x:Proc):sub (Proc.enc x) 0 1=[A.int .i64 x.site]:=by simp [sub,Proc.enc]
@[go_sem] theorem Proc.upd_site (x:Proc) (v:Int):upd (Proc.enc x) 0 ([A.int .i64 v])=Proc.enc { x with site:=v }:=by simp [upd,Proc.enc]
@[go_sem] theorem Proc.sub_inc (x:Proc):sub (Proc.enc x) 1 1=[A.int .i64 x.inc]:=by simp [sub,Proc.enc]
@[go_sem] theorem Proc.upd_inc (x:Proc) (v:Int):upd (Proc.enc x) 1 ([A.int .i64 v])=Proc.enc { x with inc:=v }:=by simp [upd,Proc.enc]
@[go_sem] theorem Proc.sub_num (x:Proc):sub (Proc.enc x) 2 1=[A.int .i64 x.num]:=by simp [sub,Proc.enc]
@[go_sem] theorem Proc.upd_num (x:Proc) (v:Int):upd (Proc.enc x) 2 ([A.int .i64 v])=Proc.enc { x with num:=v }:=by simp [upd,Proc.enc]
@[go_sem] theorem Proc.upd_lit (x:Proc) (c0 c1 c2:A):upd (Proc.enc x) 0 [c0,c1,c2]=[c0,c1,c2]:=by simp [upd,Proc.enc]
@[go_sem] theorem Proc.kinds (x:Proc):zg8 [.i .i64,.i .i64,.i .i64] (Proc.enc x)=true:=by simp [zg8,LK.fits,Proc.enc]
@[go_sem] theorem Proc.eq (x y:Proc):eqA (Proc.enc x) (Proc.enc y)=decide (x=y):=by
 rw [Bool.eq_iff_iff]; simp [eqA,eq1,zR9,and_assoc,Proc.enc,Proc.ext_iff]
@[go_sem] theorem Proc.allLen (l:List Proc):zg4 3 (l.map Proc.enc):=by intro c hc; obtain ⟨x,_,rfl⟩:=List.mem_map.1 hc; exact Proc.len x
@[go_sem] theorem Proc.allLen1 (x:Proc):zg4 3 [Proc.enc x]:=by intro c hc; simp at hc; subst hc; exact Proc.len x
@[go_sem] theorem Proc.pureRows (l:List Proc):zs5 (l.map Proc.enc):=by intro c hc; obtain ⟨x,_,rfl⟩:=List.mem_map.1 hc; exact zt9 (Proc.pure x)
@[go_sem] theorem Proc.pureEs (l:List Proc):pureEs (l.map Proc.enc)=true:=by induction l with
 | nil=>rfl
 | cons a l ih=>simp [Ab.pureEs,Proc.pure,ih]
@[go_sem] theorem Proc.getD (l:List Proc) (i:Nat):(l.map Proc.enc).getD i (Proc.enc Proc.zero)=Proc.enc (l.getD i Proc.zero):=by
 simp only [List.getD_eq_getElem?_getD,List.getElem?_map]; cases l[i]? <;> rfl
@[go_sem] theorem Proc.snoc (l:List Proc) (x:Proc):l.map Proc.enc++[Proc.enc x]=(l++[x]).map Proc.enc:=by simp
@[go_sem] theorem Proc.rep (n:Nat) (x:Proc):List.replicate n (Proc.enc x)=(List.replicate n x).map Proc.enc:=by simp
@[go_sem] theorem Proc.set (l:List Proc) (i:Nat) (x:Proc):(l.map Proc.enc).set i (Proc.enc x)=(l.set i x).map Proc.enc:=by simp [List.map_set]
@[ext] structure Amount where
 mode:Int
 units:Int
 deriving DecidableEq
def Amount.zero:Amount:=⟨0,0⟩
def Amount.enc (x:Amount):List A:=[A.int .i64 x.mode]++[A.int .i64 x.units]
@[go_sem] theorem Amount.len (x:Amount):(Amount.enc x).length=2:=by simp [Amount.enc]
@[go_sem] theorem Amount.pure (x:Amount):zg5 (Amount.enc x)=true:=by simp [zg5,A.pure1,Amount.enc]
@[go_sem] theorem Amount.scal (x:Amount):zz3 (Amount.enc x)=true:=by simp [zz3,A.scal1,Amount.enc]
@[go_sem] theorem Amount.sub_all (x:Amount):sub (Amount.enc x) 0 2=Amount.enc x:=by simp [sub,Amount.enc]
@[go_sem] theorem Amount.upd_all (x y:Amount):upd (Amount.enc x) 0 (Amount.enc y)=Amount.enc y:=by simp [upd,Amount.enc]
@[go_sem] theorem Amount.sub_mode (x:Amount):sub (Amount.enc x) 0 1=[A.int .i64 x.mode]:=by simp [sub,Amount.enc]
@[go_sem] theorem Amount.upd_mode (x:Amount) (v:Int):upd (Amount.enc x) 0 ([A.int .i64 v])=Amount.enc { x with mode:=v }:=by simp [upd,Amount.enc]
@[go_sem] theorem Amount.sub_units (x:Amount):sub (Amount.enc x) 1 1=[A.int .i64 x.units]:=by simp [sub,Amount.enc]
@[go_sem] theorem Amount.upd_units (x:Amount) (v:Int):upd (Amount.enc x) 1 ([A.int .i64 v])=Amount.enc { x with units:=v }:=by simp [upd,Amount.enc]
@[go_sem] theorem Amount.upd_lit (x:Amount) (c0 c1:A):upd (Amount.enc x) 0 [c0,c1]=[c0,c1]:=by simp [upd,Amount.enc]
@[go_sem] theorem Amount.kinds (x:Amount):zg8 [.i .i64,.i .i64] (Amount.enc x)=true:=by simp [zg8,LK.fits,Amount.enc]
@[go_sem] theorem Amount.eq (x y:Amount):eqA (Amount.enc x) (Amount.enc y)=decide (x=y):=by
 rw [Bool.eq_iff_iff]; simp [eqA,eq1,zR9,and_assoc,Amount.enc,Amount.ext_iff]
@[go_sem] theorem Amount.allLen (l:List Amount):zg4 2 (l.map Amount.enc):=by intro c hc; obtain ⟨x,_,rfl⟩:=List.mem_map.1 hc; exact Amount.len x
@[go_sem] theorem Amount.allLen1 (x:Amount):zg4 2 [Amount.enc x]:=by intro c hc; simp at hc; subst hc; exact Amount.len x
@[go_sem] theorem Amount.pureRows (l:List Amount):zs5 (l.map Amount.enc):=by intro c hc; obtain ⟨x,_,rfl⟩:=List.mem_map.1 hc; exact zt9 (Amount.pure x)
@[go_sem] theorem Amount.pureEs (l:List Amount):pureEs (l.map Amount.enc)=true:=by induction l with
 | nil=>rfl
 | cons a l ih=>simp [Ab.pureEs,Amount.pure,ih]
@[go_sem] theorem Amount.getD (l:List Amount) (i:Nat):(l.map Amount.enc).getD i (Amount.enc Amount.zero)=Amount.enc (l.getD i Amount.zero):=by
 simp only [List.getD_eq_getElem?_getD,List.getElem?_map]; cases l[i]? <;> rfl
@[go_sem] theorem Amount.snoc (l:List Amount) (x:Amount):l.map Amount.enc++[Amount.enc x]=(l++[x]).map Amount.enc:=by simp
@[go_sem] theorem Amount.rep (n:Nat) (x:Amount):List.replicate n (Amount.enc x)=(List.replicate n x).map Amount.enc:=by simp
@[go_sem] theorem Amount.set (l:List Amount) (i:Nat) (x:Amount):(l.map Amount.enc).set i (Amount.enc x)=(l.set i x).map Amount.enc:=by simp [List.map_set]
@[ext] structure Atom where
 name:ByteArray
 amount:Amount
 deriving DecidableEq
def Atom.zero:Atom:=⟨⟨#[]⟩,Amount.zero⟩
def Atom.enc (x:Atom):List A:=[A.str x.name]++Amount.enc x.amount
@[go_sem] theorem Atom.len (x:Atom):(Atom.enc x).length=3:=by simp [Atom.enc,Amount.len]
@[go_sem] theorem Atom.pure (x:Atom):zg5 (Atom.enc x)=true:=by simp [zg5,A.pure1,Atom.enc,Amount.enc]
@[go_sem] theorem Atom.scal (x:Atom):zz3 (Atom.enc x)=true:=by simp [zz3,A.scal1,Atom.enc,Amount.enc]
@[go_sem] theorem Atom.sub_all (x:Atom):sub (Atom.enc x) 0 3=Atom.enc x:=by simp [sub,Atom.enc,Amount.enc]
@[go_sem] theorem Atom.upd_all (x y:Atom):upd (Atom.enc x) 0 (Atom.enc y)=Atom.enc y:=by simp [upd,Atom.enc,Amount.enc]
@[go_sem] theorem Atom.sub_name (x:Atom):sub (Atom.enc x) 0 1=[A.str x.name]:=by simp [sub,Atom.enc,Amount.enc]
@[go_sem] theorem Atom.upd_name (x:Atom) (v:ByteArray):upd (Atom.enc x) 0 ([A.str v])=Atom.enc { x with name:=v }:=by simp [upd,Atom.enc,Amount.enc]
@[go_sem] theorem Atom.sub_amount (x:Atom):sub (Atom.enc x) 1 2=Amount.enc x.amount:=by simp [sub,Atom.enc,Amount.enc]
@[go_sem] theorem Atom.upd_amount (x:Atom) (v:Amount):upd (Atom.enc x) 1 (Amount.enc v)=Atom.enc { x with amount:=v }:=by simp [upd,Atom.enc,Amount.enc]
@[go_sem] theorem Atom.sub_amount_mode (x:Atom):sub (Atom.enc x) 1 1=[A.int .i64 x.amount.mode]:=by simp [sub,Atom.enc,Amount.enc]
@[go_sem] theorem Atom.upd_amount_mode (x:Atom) (v:Int):upd (Atom.enc x) 1 ([A.int .i64 v])=Atom.enc { x with amount:={ x.amount with mode:=v } }:=by simp [upd,Atom.enc,Amount.enc]
@[go_sem] theorem Atom.sub_amount_units (x:Atom):sub (Atom.enc x) 2 1=[A.int .i64 x.amount.units]:=by simp [sub,Atom.enc,Amount.enc]
@[go_sem] theorem Atom.upd_amount_units (x:Atom) (v:Int):upd (Atom.enc x) 2 ([A.int .i64 v])=Atom.enc { x with amount:={ x.amount with units:=v } }:=by simp [upd,Atom.enc,Amount.enc]
@[go_sem] theorem Atom.upd_lit (x:Atom) (c0 c1 c2:A):upd (Atom.enc x) 0 [c0,c1,c2]=[c0,c1,c2]:=by simp [upd,Atom.enc,Amount.enc]
@[go_sem] theorem Atom.kinds (x:Atom):zg8 [.s,.i .i64,.i .i64] (Atom.enc x)=true:=by simp [zg8,LK.fits,Atom.enc,Amount.enc]
@[go_sem] theorem Atom.eq (x y:Atom):eqA (Atom.enc x) (Atom.enc y)=decide (x=y):=by
 rw [Bool.eq_iff_iff]; simp [eqA,eq1,zR9,and_assoc,Atom.enc,Amount.enc,Atom.ext_iff,Amount.ext_iff]
@[go_sem] theorem Atom.allLen (l:List Atom):zg4 3 (l.map Atom.enc):=by intro c hc; obtain ⟨x,_,rfl⟩:=List.mem_map.1 hc; exact Atom.len x
@[go_sem] theorem Atom.allLen1 (x:Atom):zg4 3 [Atom.enc x]:=by intro c hc; simp at hc; subst hc; exact Atom.len x
@[go_sem] theorem Atom.pureRows (l:List Atom):zs5 (l.map Atom.enc):=by intro c hc; obtain ⟨x,_,rfl⟩:=List.mem_map.1 hc; exact zt9 (Atom.pure x)
@[go_sem] theorem Atom.pureEs (l:List Atom):pureEs (l.map Atom.enc)=true:=by induction l with
 | nil=>rfl
 | cons a l ih=>simp [Ab.pureEs,Atom.pure,ih]
@[go_sem] theorem Atom.getD (l:List Atom) (i:Nat):(l.map Atom.enc).getD i (Atom.enc Atom.zero)=Atom.enc (l.getD i Atom.zero):=by
 simp only [List.getD_eq_getElem?_getD,List.getElem?_map]; cases l[i]? <;> rfl
@[go_sem] theorem Atom.snoc (l:List Atom) (x:Atom):l.map Atom.enc++[Atom.enc x]=(l++[x]).map Atom.enc:=by simp
@[go_sem] theorem Atom.rep (n:Nat) (x:Atom):List.replicate n (Atom.enc x)=(List.replicate n x).map Atom.enc:=by simp
@[go_sem] theorem Atom.set (l:List Atom) (i:Nat) (x:Atom):(l.map Atom.enc).set i (Atom.enc x)=(l.set i x).map Atom.enc:=by simp [List.map_set]
@[ext] structure Resource where
 name:ByteArray
 kind:Int
 units:Int
 home:Int
 deriving DecidableEq
def Resource.zero:Resource:=⟨⟨#[]⟩,0,0,0⟩
def Resource.enc (x:Resource):List A:=[A.str x.name]++[A.int .i64 x.kind]++[A.int .i64 x.units]++[A.int .i64 x.home]
@[go_sem] theorem Resource.len (x:Resource):(Resource.enc x).length=4:=by simp [Resource.enc]
@[go_sem] theorem Resource.pure (x:Resource):zg5 (Resource.enc x)=true:=by simp [zg5,A.pure1,Resource.enc]
@[go_sem] theorem Resource.scal (x:Resource):zz3 (Resource.enc x)=true:=by simp [zz3,A.scal1,Resource.enc]
@[go_sem] theorem Resource.sub_all (x:Resource):sub (Resource.enc x) 0 4=Resource.enc x:=by simp [sub,Resource.enc]
@[go_sem] theorem Resource.upd_all (x y:Resource):upd (Resource.enc x) 0 (Resource.enc y)=Resource.enc y:=by simp [upd,Resource.enc]
@[go_sem] theorem Resource.sub_name (x:Resource):sub (Resource.enc x) 0 1=[A.str x.name]:=by simp [sub,Resource.enc]
@[go_sem] theorem Resource.upd_name (x:Resource) (v:ByteArray):upd (Resource.enc x) 0 ([A.str v])=Resource.enc { x with name:=v }:=by simp [upd,Resource.enc]
@[go_sem] theorem Resource.sub_kind (x:Resource):sub (Resource.enc x) 1 1=[A.int .i64 x.kind]:=by simp [sub,Resource.enc]
@[go_sem] theorem Resource.upd_kind (x:Resource) (v:Int):upd (Resource.enc x) 1 ([A.int .i64 v])=Resource.enc { x with kind:=v }:=by simp [upd,Resource.enc]
@[go_sem] theorem Resource.sub_units (x:Resource):sub (Resource.enc x) 2 1=[A.int .i64 x.units]:=by simp [sub,Resource.enc]
@[go_sem] theorem Resource.upd_units (x:Resource) (v:Int):upd (Resource.enc x) 2 ([A.int .i64 v])=Resource.enc { x with units:=v }:=by simp [upd,Resource.enc]
@[go_sem] theorem Resource.sub_home (x:Resource):sub (Resource.enc x) 3 1=[A.int .i64 x.home]:=by simp [sub,Resource.enc]
@[go_sem] theorem Resource.upd_home (x:Resource) (v:Int):upd (Resource.enc x) 3 ([A.int .i64 v])=Resource.enc { x with home:=v }:=by simp [upd,Resource.enc]
@[go_sem] theorem Resource.upd_lit (x:Resource) (c0 c1 c2 c3:A):upd (Resource.enc x) 0 [c0,c1,c2,c3]=[c0,c1,c2,c3]:=by simp [upd,Resource.enc]
@[go_sem] theorem Resource.kinds (x:Resource):zg8 [.s,.i .i64,.i .i64,.i .i64] (Resource.enc x)=true:=by simp [zg8,LK.fits,Resource.enc]
@[go_sem] theorem Resource.eq (x y:Resource):eqA (Resource.enc x) (Resource.enc y)=decide (x=y):=by
 rw [Bool.eq_iff_iff]; simp [eqA,eq1,zR9,and_assoc,Resource.enc,Resource.ext_iff]
@[go_sem] theorem Resource.allLen (l:List Resource):zg4 4 (l.map Resource.enc):=by intro c hc; obtain ⟨x,_,rfl⟩:=List.mem_map.1 hc; exact Resource.len x
@[go_sem] theorem Resource.allLen1 (x:Resource):zg4 4 [Resource.enc x]:=by intro c hc; simp at hc; subst hc; exact Resource.len x
@[go_sem] theorem Resource.pureRows (l:List Resource):zs5 (l.map Resource.enc):=by intro c hc; obtain ⟨x,_,rfl⟩:=List.mem_map.1 hc; exact zt9 (Resource.pure x)
@[go_sem] theorem Resource.pureEs (l:List Resource):pureEs (l.map Resource.enc)=true:=by induction l with
 | nil=>rfl
 | cons a l ih=>simp [Ab.pureEs,Resource.pure,ih]
@[go_sem] theorem Resource.getD (l:List Resource) (i:Nat):(l.map Resource.enc).getD i (Resource.enc Resource.zero)=Resource.enc (l.getD i Resource.zero):=by
 simp only [List.getD_eq_getElem?_getD,List.getElem?_map]; cases l[i]? <;> rfl
@[go_sem] theorem Resource.snoc (l:List Resource) (x:Resource):l.map Resource.enc++[Resource.enc x]=(l++[x]).map Resource.enc:=by simp
@[go_sem] theorem Resource.rep (n:Nat) (x:Resource):List.replicate n (Resource.enc x)=(List.replicate n x).map Resource.enc:=by simp
@[go_sem] theorem Resource.set (l:List Resource) (i:Nat) (x:Resource):(l.map Resource.enc).set i (Resource.enc x)=(l.set i x).map Resource.enc:=by simp [List.map_set]
@[ext] structure Hold where
 proc:Proc
 amount:Amount
 deriving DecidableEq
def Hold.zero:Hold:=⟨Proc.zero,Amount.zero⟩
def Hold.enc (x:Hold):List A:=Proc.enc x.proc++Amount.enc x.amount
@[go_sem] theorem Hold.len (x:Hold):(Hold.enc x).length=5:=by simp [Hold.enc,Proc.len,Amount.len]
@[go_sem] theorem Hold.pure (x:Hold):zg5 (Hold.enc x)=true:=by simp [zg5,A.pure1,Hold.enc,Amount.enc,Proc.enc]
@[go_sem] theorem Hold.scal (x:Hold):zz3 (Hold.enc x)=true:=by simp [zz3,A.scal1,Hold.enc,Amount.enc,Proc.enc]
@[go_sem] theorem Hold.sub_all (x:Hold):sub (Hold.enc x) 0 5=Hold.enc x:=by simp [sub,Hold.enc,Amount.enc,Proc.enc]
@[go_sem] theorem Hold.upd_all (x y:Hold):upd (Hold.enc x) 0 (Hold.enc y)=Hold.enc y:=by simp [upd,Hold.enc,Amount.enc,Proc.enc]
@[go_sem] theorem Hold.sub_proc (x:Hold):sub (Hold.enc x) 0 3=Proc.enc x.proc:=by simp [sub,Hold.enc,Amount.enc,Proc.enc]
@[go_sem] theorem Hold.upd_proc (x:Hold) (v:Proc):upd (Hold.enc x) 0 (Proc.enc v)=Hold.enc { x with proc:=v }:=by simp [upd,Hold.enc,Amount.enc,Proc.enc]
@[go_sem] theorem Hold.sub_proc_site (x:Hold):sub (Hold.enc x) 0 1=[A.int .i64 x.proc.site]:=by simp [sub,Hold.enc,Amount.enc,Proc.enc]
@[go_sem] theorem Hold.upd_proc_site (x:Hold) (v:Int):upd (Hold.enc x) 0 ([A.int .i64 v])=Hold.enc { x with proc:={ x.proc with site:=v } }:=by simp [upd,Hold.enc,Amount.enc,Proc.enc]
@[go_sem] theorem Hold.sub_proc_inc (x:Hold):sub (Hold.enc x) 1 1=[A.int .i64 x.proc.inc]:=by simp [sub,Hold.enc,Amount.enc,Proc.enc]
@[go_sem] theorem Hold.upd_proc_inc (x:Hold) (v:Int):upd (Hold.enc x) 1 ([A.int .i64 v])=Hold.enc { x with proc:={ x.proc with inc:=v } }:=by simp [upd,Hold.enc,Amount.enc,Proc.enc]
@[go_sem] theorem Hold.sub_proc_num (x:Hold):sub (Hold.enc x) 2 1=[A.int .i64 x.proc.num]:=by simp [sub,Hold.enc,Amount.enc,Proc.enc]
@[go_sem] theorem Hold.upd_proc_num (x:Hold) (v:Int):upd (Hold.enc x) 2 ([A.int .i64 v])=Hold.enc { x with proc:={ x.proc with num:=v } }:=by simp [upd,Hold.enc,Amount.enc,Proc.enc]
@[go_sem] theorem Hold.sub_amount (x:Hold):sub (Hold.enc x) 3 2=Amount.enc x.amount:=by simp [sub,Hold.enc,Amount.enc,Proc.enc]
@[go_sem] theorem Hold.upd_amount (x:Hold) (v:Amount):upd (Hold.enc x) 3 (Amount.enc v)=Hold.enc { x with amount:=v }:=by simp [upd,Hold.enc,Amount.enc,Proc.enc]
@[go_sem] theorem Hold.sub_amount_mode (x:Hold):sub (Hold.enc x) 3 1=[A.int .i64 x.amount.mode]:=by simp [sub,Hold.enc,Amount.enc,Proc.enc]
@[go_sem] theorem Hold.upd_amount_mode (x:Hold) (v:Int):upd (Hold.enc x) 3 ([A.int .i64 v])=Hold.enc { x with amount:={ x.amount with mode:=v } }:=by simp [upd,Hold.enc,Amount.enc,Proc.enc]
@[go_sem] theorem Hold.sub_amount_units (x:Hold):sub (Hold.enc x) 4 1=[A.int .i64 x.amount.units]:=by simp [sub,Hold.enc,Amount.enc,Proc.enc]
@[go_sem] theorem Hold.upd_amount_units (x:Hold) (v:Int):upd (Hold.enc x) 4 ([A.int .i64 v])=Hold.enc { x with amount:={ x.amount with units:=v } }:=by simp [upd,Hold.enc,Amount.enc,Proc.enc]
@[go_sem] theorem Hold.upd_lit (x:Hold) (c0 c1 c2 c3 c4:A):upd (Hold.enc x) 0 [c0,c1,c2,c3,c4]=[c0,c1,c2,c3,c4]:=by simp [upd,Hold.enc,Amount.enc,Proc.enc]
@[go_sem] theorem Hold.kinds (x:Hold):zg8 [.i .i64,.i .i64,.i .i64,.i .i64,.i .i64] (Hold.enc x)=true:=by simp [zg8,LK.fits,Hold.enc,Amount.enc,Proc.enc]
@[go_sem] theorem Hold.eq (x y:Hold):eqA (Hold.enc x) (Hold.enc y)=decide (x=y):=by
 rw [Bool.eq_iff_iff]; simp [eqA,eq1,zR9,and_assoc,Hold.enc,Amount.enc,Proc.enc,Hold.ext_iff,Amount.ext_iff,Proc.ext_iff]
@[go_sem] theorem Hold.allLen (l:List Hold):zg4 5 (l.map Hold.enc):=by intro c hc; obtain ⟨x,_,rfl⟩:=List.mem_map.1 hc; exact Hold.len x
@[go_sem] theorem Hold.allLen1 (x:Hold):zg4 5 [Hold.enc x]:=by intro c hc; simp at hc; subst hc; exact Hold.len x
@[go_sem] theorem Hold.pureRows (l:List Hold):zs5 (l.map Hold.enc):=by intro c hc; obtain ⟨x,_,rfl⟩:=List.mem_map.1 hc; exact zt9 (Hold.pure x)
@[go_sem] theorem Hold.pureEs (l:List Hold):pureEs (l.map Hold.enc)=true:=by induction l with
 | nil=>rfl
 | cons a l ih=>simp [Ab.pureEs,Hold.pure,ih]
@[go_sem] theorem Hold.getD (l:List Hold) (i:Nat):(l.map Hold.enc).getD i (Hold.enc Hold.zero)=Hold.enc (l.getD i Hold.zero):=by
 simp only [List.getD_eq_getElem?_getD,List.getElem?_map]; cases l[i]? <;> rfl
@[go_sem] theorem Hold.snoc (l:List Hold) (x:Hold):l.map Hold.enc++[Hold.enc x]=(l++[x]).map Hold.enc:=by simp
@[go_sem] theorem Hold.rep (n:Nat) (x:Hold):List.replicate n (Hold.enc x)=(List.replicate n x).map Hold.enc:=by simp
@[go_sem] theorem Hold.set (l:List Hold) (i:Nat) (x:Hold):(l.map Hold.enc).set i (Hold.enc x)=(l.set i x).map Hold.enc:=by simp [List.map_set]
@[ext] structure Wait where
 proc:Proc
 amount:Amount
 priority:Int
 passed:Int
 deriving DecidableEq
def Wait.zero:Wait:=⟨Proc.zero,Amount.zero,0,0⟩
def Wait.enc (x:Wait):List A:=Proc.enc x.proc++Amount.enc x.amount++[A.int .i64 x.priority]++[A.int .i64 x.passed]
@[go_sem] theorem Wait.len (x:Wait):(Wait.enc x).length=7:=by simp [Wait.enc,Proc.len,Amount.len]
@[go_sem] theorem Wait.pure (x:Wait):zg5 (Wait.enc x)=true:=by simp [zg5,A.pure1,Wait.enc,Amount.enc,Proc.enc]
@[go_sem] theorem Wait.scal (x:Wait):zz3 (Wait.enc x)=true:=by simp [zz3,A.scal1,Wait.enc,Amount.enc,Proc.enc]
@[go_sem] theorem Wait.sub_all (x:Wait):sub (Wait.enc x) 0 7=Wait.enc x:=by simp [sub,Wait.enc,Amount.enc,Proc.enc]
@[go_sem] theorem Wait.upd_all (x y:Wait):upd (Wait.enc x) 0 (Wait.enc y)=Wait.enc y:=by simp [upd,Wait.enc,Amount.enc,Proc.enc]
@[go_sem] theorem Wait.sub_proc (x:Wait):sub (Wait.enc x) 0 3=Proc.enc x.proc:=by simp [sub,Wait.enc,Amount.enc,Proc.enc]
@[go_sem] theorem Wait.upd_proc (x:Wait) (v:Proc):upd (Wait.enc x) 0 (Proc.enc v)=Wait.enc { x with proc:=v }:=by simp [upd,Wait.enc,Amount.enc,Proc.enc]
@[go_sem] theorem Wait.sub_proc_site (x:Wait):sub (Wait.enc x) 0 1=[A.int .i64 x.proc.site]:=by simp [sub,Wait.enc,Amount.enc,Proc.enc]
@[go_sem] theorem Wait.upd_proc_site (x:Wait) (v:Int):upd (Wait.enc x) 0 ([A.int .i64 v])=Wait.enc { x with proc:={ x.proc with site:=v } }:=by simp [upd,Wait.enc,Amount.enc,Proc.enc]
@[go_sem] theorem Wait.sub_proc_inc (x:Wait):sub (Wait.enc x) 1 1=[A.int .i64 x.proc.inc]:=by simp [sub,Wait.enc,Amount.enc,Proc.enc]
@[go_sem] theorem Wait.upd_proc_inc (x:Wait) (v:Int):upd (Wait.enc x) 1 ([A.int .i64 v])=Wait.enc { x with proc:={ x.proc with inc:=v } }:=by simp [upd,Wait.enc,Amount.enc,Proc.enc]
@[go_sem] theorem Wait.sub_proc_num (x:Wait):sub (Wait.enc x) 2 1=[A.int .i64 x.proc.num]:=by simp [sub,Wait.enc,Amount.enc,Proc.enc]
@[go_sem] theorem Wait.upd_proc_num (x:Wait) (v:Int):upd (Wait.enc x) 2 ([A.int .i64 v])=Wait.enc { x with proc:={ x.proc with num:=v } }:=by simp [upd,Wait.enc,Amount.enc,Proc.enc]
@[go_sem] theorem Wait.sub_amount (x:Wait):sub (Wait.enc x) 3 2=Amount.enc x.amount:=by simp [sub,Wait.enc,Amount.enc,Proc.enc]
@[go_sem] theorem Wait.upd_amount (x:Wait) (v:Amount):upd (Wait.enc x) 3 (Amount.enc v)=Wait.enc { x with amount:=v }:=by simp [upd,Wait.enc,Amount.enc,Proc.enc]
@[go_sem] theorem Wait.sub_amount_mode (x:Wait):sub (Wait.enc x) 3 1=[A.int .i64 x.amount.mode]:=by simp [sub,Wait.enc,Amount.enc,Proc.enc]
@[go_sem] theorem Wait.upd_amount_mode (x:Wait) (v:Int):upd (Wait.enc x) 3 ([A.int .i64 v])=Wait.enc { x with amount:={ x.amount with mode:=v } }:=by simp [upd,Wait.enc,Amount.enc,Proc.enc]
@[go_sem] theorem Wait.sub_amount_units (x:Wait):sub (Wait.enc x) 4 1=[A.int .i64 x.amount.units]:=by simp [sub,Wait.enc,Amount.enc,Proc.enc]
@[go_sem] theorem Wait.upd_amount_units (x:Wait) (v:Int):upd (Wait.enc x) 4 ([A.int .i64 v])=Wait.enc { x with amount:={ x.amount with units:=v } }:=by simp [upd,Wait.enc,Amount.enc,Proc.enc]
@[go_sem] theorem Wait.sub_priority (x:Wait):sub (Wait.enc x) 5 1=[A.int .i64 x.priority]:=by simp [sub,Wait.enc,Amount.enc,Proc.enc]
@[go_sem] theorem Wait.upd_priority (x:Wait) (v:Int):upd (Wait.enc x) 5 ([A.int .i64 v])=Wait.enc { x with priority:=v }:=by simp [upd,Wait.enc,Amount.enc,Proc.enc]
@[go_sem] theorem Wait.sub_passed (x:Wait):sub (Wait.enc x) 6 1=[A.int .i64 x.passed]:=by simp [sub,Wait.enc,Amount.enc,Proc.enc]
@[go_sem] theorem Wait.upd_passed (x:Wait) (v:Int):upd (Wait.enc x) 6 ([A.int .i64 v])=Wait.enc { x with passed:=v }:=by simp [upd,Wait.enc,Amount.enc,Proc.enc]
@[go_sem] theorem Wait.upd_lit (x:Wait) (c0 c1 c2 c3 c4 c5 c6:A):upd (Wait.enc x) 0 [c0,c1,c2,c3,c4,c5,c6]=[c0,c1,c2,c3,c4,c5,c6]:=by simp [upd,Wait.enc,Amount.enc,Proc.enc]
@[go_sem] theorem Wait.kinds (x:Wait):zg8 [.i .i64,.i .i64,.i .i64,.i .i64,.i .i64,.i .i64,.i .i64] (Wait.enc x)=true:=by simp [zg8,LK.fits,Wait.enc,Amount.enc,Proc.enc]
@[go_sem] theorem Wait.eq (x y:Wait):eqA (Wait.enc x) (Wait.enc y)=decide (x=y):=by
 rw [Bool.eq_iff_iff]; simp [eqA,eq1,zR9,and_assoc,Wait.enc,Amount.enc,Proc.enc,Wait.ext_iff,Amount.ext_iff,Proc.ext_iff]
@[go_sem] theorem Wait.allLen (l:List Wait):zg4 7 (l.map Wait.enc):=by intro c hc; obtain ⟨x,_,rfl⟩:=List.mem_map.1 hc; exact Wait.len x
@[go_sem] theorem Wait.allLen1 (x:Wait):zg4 7 [Wait.enc x]:=by intro c hc; simp at hc; subst hc; exact Wait.len x
@[go_sem] theorem Wait.pureRows (l:List Wait):zs5 (l.map Wait.enc):=by intro c hc; obtain ⟨x,_,rfl⟩:=List.mem_map.1 hc; exact zt9 (Wait.pure x)
@[go_sem] theorem Wait.pureEs (l:List Wait):pureEs (l.map Wait.enc)=true:=by induction l with
 | nil=>rfl
 | cons a l ih=>simp [Ab.pureEs,Wait.pure,ih]
@[go_sem] theorem Wait.getD (l:List Wait) (i:Nat):(l.map Wait.enc).getD i (Wait.enc Wait.zero)=Wait.enc (l.getD i Wait.zero):=by
 simp only [List.getD_eq_getElem?_getD,List.getElem?_map]; cases l[i]? <;> rfl
@[go_sem] theorem Wait.snoc (l:List Wait) (x:Wait):l.map Wait.enc++[Wait.enc x]=(l++[x]).map Wait.enc:=by simp
@[go_sem] theorem Wait.rep (n:Nat) (x:Wait):List.replicate n (Wait.enc x)=(List.replicate n x).map Wait.enc:=by simp
@[go_sem] theorem Wait.set (l:List Wait) (i:Nat) (x:Wait):(l.map Wait.enc).set i (Wait.enc x)=(l.set i x).map Wait.enc:=by simp [List.map_set]
@[ext] structure Queue where
 resource:Resource
 holds:(List Hold)
 converts:(List Wait)
 waits:(List Wait)
 gen:Int
def Queue.zero:Queue:=⟨Resource.zero,[],[],[],0⟩
def Queue.enc (x:Queue):List A:=Resource.enc x.resource++[A.sl (x.holds.map Hold.enc)]++[A.sl (x.converts.map Wait.enc)]++[A.sl (x.waits.map Wait.enc)]++[A.int .i64 x.gen]
@[go_sem] theorem Queue.len (x:Queue):(Queue.enc x).length=8:=by simp [Queue.enc,Resource.len]
@[go_sem] theorem Queue.pure (x:Queue):zg5 (Queue.enc x)=true:=by simp [zg5,A.pure1,Queue.enc,Resource.enc]
@[go_sem] theorem Queue.sub_all (x:Queue):sub (Queue.enc x) 0 8=Queue.enc x:=by simp [sub,Queue.enc,Resource.enc]
@[go_sem] theorem Queue.upd_all (x y:Queue):upd (Queue.enc x) 0 (Queue.enc y)=Queue.enc y:=by simp [upd,Queue.enc,Resource.enc]
@[go_sem] theorem Queue.sub_resource (x:Queue):sub (Queue.enc x) 0 4=Resource.enc x.resource:=by simp [sub,Queue.enc,Resource.enc]
@[go_sem] theorem Queue.upd_resource (x:Queue) (v:Resource):upd (Queue.enc x) 0 (Resource.enc v)=Queue.enc { x with resource:=v }:=by simp [upd,Queue.enc,Resource.enc]
@[go_sem] theorem Queue.sub_resource_name (x:Queue):sub (Queue.enc x) 0 1=[A.str x.resource.name]:=by simp [sub,Queue.enc,Resource.enc]
@[go_sem] theorem Queue.upd_resource_name (x:Queue) (v:ByteArray):upd (Queue.enc x) 0 ([A.str v])=Queue.enc { x with resource:={ x.resource with name:=v } }:=by simp [upd,Queue.enc,Resource.enc]
@[go_sem] theorem Queue.sub_resource_kind (x:Queue):sub (Queue.enc x) 1 1=[A.int .i64 x.resource.kind]:=by simp [sub,Queue.enc,Resource.enc]
@[go_sem] theorem Queue.upd_resource_kind (x:Queue) (v:Int):upd (Queue.enc x) 1 ([A.int .i64 v])=Queue.enc { x with resource:={ x.resource with kind:=v } }:=by simp [upd,Queue.enc,Resource.enc]
@[go_sem] theorem Queue.sub_resource_units (x:Queue):sub (Queue.enc x) 2 1=[A.int .i64 x.resource.units]:=by simp [sub,Queue.enc,Resource.enc]
@[go_sem] theorem Queue.upd_resource_units (x:Queue) (v:Int):upd (Queue.enc x) 2 ([A.int .i64 v])=Queue.enc { x with resource:={ x.resource with units:=v } }:=by simp [upd,Queue.enc,Resource.enc]
@[go_sem] theorem Queue.sub_resource_home (x:Queue):sub (Queue.enc x) 3 1=[A.int .i64 x.resource.home]:=by simp [sub,Queue.enc,Resource.enc]
@[go_sem] theorem Queue.upd_resource_home (x:Queue) (v:Int):upd (Queue.enc x) 3 ([A.int .i64 v])=Queue.enc { x with resource:={ x.resource with home:=v } }:=by simp [upd,Queue.enc,Resource.enc]
@[go_sem] theorem Queue.sub_holds (x:Queue):sub (Queue.enc x) 4 1=[A.sl (x.holds.map Hold.enc)]:=by simp [sub,Queue.enc,Resource.enc]
@[go_sem] theorem Queue.upd_holds (x:Queue) (v:(List Hold)):upd (Queue.enc x) 4 ([A.sl (v.map Hold.enc)])=Queue.enc { x with holds:=v }:=by simp [upd,Queue.enc,Resource.enc]
@[go_sem] theorem Queue.sub_converts (x:Queue):sub (Queue.enc x) 5 1=[A.sl (x.converts.map Wait.enc)]:=by simp [sub,Queue.enc,Resource.enc]
@[go_sem] theorem Queue.upd_converts (x:Queue) (v:(List Wait)):upd (Queue.enc x) 5 ([A.sl (v.map Wait.enc)])=Queue.enc { x with converts:=v }:=by simp [upd,Queue.enc,Resource.enc]
@[go_sem] theorem Queue.sub_waits (x:Queue):sub (Queue.enc x) 6 1=[A.sl (x.waits.map Wait.enc)]:=by simp [sub,Queue.enc,Resource.enc]
@[go_sem] theorem Queue.upd_waits (x:Queue) (v:(List Wait)):upd (Queue.enc x) 6 ([A.sl (v.map Wait.enc)])=Queue.enc { x with waits:=v }:=by simp [upd,Queue.enc,Resource.enc]
@[go_sem] theorem Queue.sub_gen (x:Queue):sub (Queue.enc x) 7 1=[A.int .i64 x.gen]:=by simp [sub,Queue.enc,Resource.enc]
@[go_sem] theorem Queue.upd_gen (x:Queue) (v:Int):upd (Queue.enc x) 7 ([A.int .i64 v])=Queue.enc { x with gen:=v }:=by simp [upd,Queue.enc,Resource.enc]
@[go_sem] theorem Queue.upd_lit (x:Queue) (c0 c1 c2 c3 c4 c5 c6 c7:A):upd (Queue.enc x) 0 [c0,c1,c2,c3,c4,c5,c6,c7]=[c0,c1,c2,c3,c4,c5,c6,c7]:=by simp [upd,Queue.enc,Resource.enc]
@[go_sem] theorem Queue.updo_holds (x:Queue) (y lo k:Nat):upd (Queue.enc x) 4 [A.own y lo k]=[A.str x.resource.name,A.int .i64 x.resource.kind,A.int .i64 x.resource.units,A.int .i64 x.resource.home,A.own y lo k,A.sl (x.converts.map Wait.enc),A.sl (x.waits.map Wait.enc),A.int .i64 x.gen]:=by simp [upd,Queue.enc,Resource.enc]
@[go_sem] theorem Queue.updo_converts (x:Queue) (y lo k:Nat):upd (Queue.enc x) 5 [A.own y lo k]=[A.str x.resource.name,A.int .i64 x.resource.kind,A.int .i64 x.resource.units,A.int .i64 x.resource.home,A.sl (x.holds.map Hold.enc),A.own y lo k,A.sl (x.waits.map Wait.enc),A.int .i64 x.gen]:=by simp [upd,Queue.enc,Resource.enc]
@[go_sem] theorem Queue.updo_waits (x:Queue) (y lo k:Nat):upd (Queue.enc x) 6 [A.own y lo k]=[A.str x.resource.name,A.int .i64 x.resource.kind,A.int .i64 x.resource.units,A.int .i64 x.resource.home,A.sl (x.holds.map Hold.enc),A.sl (x.converts.map Wait.enc),A.own y lo k,A.int .i64 x.gen]:=by simp [upd,Queue.enc,Resource.enc]
@[go_sem] theorem Queue.allLen (l:List Queue):zg4 8 (l.map Queue.enc):=by intro c hc; obtain ⟨x,_,rfl⟩:=List.mem_map.1 hc; exact Queue.len x
@[go_sem] theorem Queue.allLen1 (x:Queue):zg4 8 [Queue.enc x]:=by intro c hc; simp at hc; subst hc; exact Queue.len x
@[go_sem] theorem Queue.pureRows (l:List Queue):zs5 (l.map Queue.enc):=by intro c hc; obtain ⟨x,_,rfl⟩:=List.mem_map.1 hc; exact zt9 (Queue.pure x)
@[go_sem] theorem Queue.pureEs (l:List Queue):pureEs (l.map Queue.enc)=true:=by induction l with
 | nil=>rfl
 | cons a l ih=>simp [Ab.pureEs,Queue.pure,ih]
@[go_sem] theorem Queue.getD (l:List Queue) (i:Nat):(l.map Queue.enc).getD i (Queue.enc Queue.zero)=Queue.enc (l.getD i Queue.zero):=by
 simp only [List.getD_eq_getElem?_getD,List.getElem?_map]; cases l[i]? <;> rfl
@[go_sem] theorem Queue.snoc (l:List Queue) (x:Queue):l.map Queue.enc++[Queue.enc x]=(l++[x]).map Queue.enc:=by simp
@[go_sem] theorem Queue.rep (n:Nat) (x:Queue):List.replicate n (Queue.enc x)=(List.replicate n x).map Queue.enc:=by simp
@[go_sem] theorem Queue.set (l:List Queue) (i:Nat) (x:Queue):(l.map Queue.enc).set i (Queue.enc x)=(l.set i x).map Queue.enc:=by simp [List.map_set]
@[ext] structure Event where
 kind:Int
 proc:Proc
 name:ByteArray
 amount:Amount
 deriving DecidableEq
def Event.zero:Event:=⟨0,Proc.zero,⟨#[]⟩,Amount.zero⟩
def Event.enc (x:Event):List A:=[A.int .i64 x.kind]++Proc.enc x.proc++[A.str x.name]++Amount.enc x.amount
@[go_sem] theorem Event.len (x:Event):(Event.enc x).length=7:=by simp [Event.enc,Proc.len,Amount.len]
@[go_sem] theorem Event.pure (x:Event):zg5 (Event.enc x)=true:=by simp [zg5,A.pure1,Event.enc,Amount.enc,Proc.enc]
@[go_sem] theorem Event.scal (x:Event):zz3 (Event.enc x)=true:=by simp [zz3,A.scal1,Event.enc,Amount.enc,Proc.enc]
@[go_sem] theorem Event.sub_all (x:Event):sub (Event.enc x) 0 7=Event.enc x:=by simp [sub,Event.enc,Amount.enc,Proc.enc]
@[go_sem] theorem Event.upd_all (x y:Event):upd (Event.enc x) 0 (Event.enc y)=Event.enc y:=by simp [upd,Event.enc,Amount.enc,Proc.enc]
@[go_sem] theorem Event.sub_kind (x:Event):sub (Event.enc x) 0 1=[A.int .i64 x.kind]:=by simp [sub,Event.enc,Amount.enc,Proc.enc]
@[go_sem] theorem Event.upd_kind (x:Event) (v:Int):upd (Event.enc x) 0 ([A.int .i64 v])=Event.enc { x with kind:=v }:=by simp [upd,Event.enc,Amount.enc,Proc.enc]
@[go_sem] theorem Event.sub_proc (x:Event):sub (Event.enc x) 1 3=Proc.enc x.proc:=by simp [sub,Event.enc,Amount.enc,Proc.enc]
@[go_sem] theorem Event.upd_proc (x:Event) (v:Proc):upd (Event.enc x) 1 (Proc.enc v)=Event.enc { x with proc:=v }:=by simp [upd,Event.enc,Amount.enc,Proc.enc]
@[go_sem] theorem Event.sub_proc_site (x:Event):sub (Event.enc x) 1 1=[A.int .i64 x.proc.site]:=by simp [sub,Event.enc,Amount.enc,Proc.enc]
@[go_sem] theorem Event.upd_proc_site (x:Event) (v:Int):upd (Event.enc x) 1 ([A.int .i64 v])=Event.enc { x with proc:={ x.proc with site:=v } }:=by simp [upd,Event.enc,Amount.enc,Proc.enc]
@[go_sem] theorem Event.sub_proc_inc (x:Event):sub (Event.enc x) 2 1=[A.int .i64 x.proc.inc]:=by simp [sub,Event.enc,Amount.enc,Proc.enc]
@[go_sem] theorem Event.upd_proc_inc (x:Event) (v:Int):upd (Event.enc x) 2 ([A.int .i64 v])=Event.enc { x with proc:={ x.proc with inc:=v } }:=by simp [upd,Event.enc,Amount.enc,Proc.enc]
@[go_sem] theorem Event.sub_proc_num (x:Event):sub (Event.enc x) 3 1=[A.int .i64 x.proc.num]:=by simp [sub,Event.enc,Amount.enc,Proc.enc]
@[go_sem] theorem Event.upd_proc_num (x:Event) (v:Int):upd (Event.enc x) 3 ([A.int .i64 v])=Event.enc { x with proc:={ x.proc with num:=v } }:=by simp [upd,Event.enc,Amount.enc,Proc.enc]
@[go_sem] theorem Event.sub_name (x:Event):sub (Event.enc x) 4 1=[A.str x.name]:=by simp [sub,Event.enc,Amount.enc,Proc.enc]
@[go_sem] theorem Event.upd_name (x:Event) (v:ByteArray):upd (Event.enc x) 4 ([A.str v])=Event.enc { x with name:=v }:=by simp [upd,Event.enc,Amount.enc,Proc.enc]
@[go_sem] theorem Event.sub_amount (x:Event):sub (Event.enc x) 5 2=Amount.enc x.amount:=by simp [sub,Event.enc,Amount.enc,Proc.enc]
@[go_sem] theorem Event.upd_amount (x:Event) (v:Amount):upd (Event.enc x) 5 (Amount.enc v)=Event.enc { x with amount:=v }:=by simp [upd,Event.enc,Amount.enc,Proc.enc]
@[go_sem] theorem Event.sub_amount_mode (x:Event):sub (Event.enc x) 5 1=[A.int .i64 x.amount.mode]:=by simp [sub,Event.enc,Amount.enc,Proc.enc]
@[go_sem] theorem Event.upd_amount_mode (x:Event) (v:Int):upd (Event.enc x) 5 ([A.int .i64 v])=Event.enc { x with amount:={ x.amount with mode:=v } }:=by simp [upd,Event.enc,Amount.enc,Proc.enc]
@[go_sem] theorem Event.sub_amount_units (x:Event):sub (Event.enc x) 6 1=[A.int .i64 x.amount.units]:=by simp [sub,Event.enc,Amount.enc,Proc.enc]
@[go_sem] theorem Event.upd_amount_units (x:Event) (v:Int):upd (Event.enc x) 6 ([A.int .i64 v])=Event.enc { x with amount:={ x.amount with units:=v } }:=by simp [upd,Event.enc,Amount.enc,Proc.enc]
@[go_sem] theorem Event.upd_lit (x:Event) (c0 c1 c2 c3 c4 c5 c6:A):upd (Event.enc x) 0 [c0,c1,c2,c3,c4,c5,c6]=[c0,c1,c2,c3,c4,c5,c6]:=by simp [upd,Event.enc,Amount.enc,Proc.enc]
@[go_sem] theorem Event.kinds (x:Event):zg8 [.i .i64,.i .i64,.i .i64,.i .i64,.s,.i .i64,.i .i64] (Event.enc x)=true:=by simp [zg8,LK.fits,Event.enc,Amount.enc,Proc.enc]
@[go_sem] theorem Event.eq (x y:Event):eqA (Event.enc x) (Event.enc y)=decide (x=y):=by
 rw [Bool.eq_iff_iff]; simp [eqA,eq1,zR9,and_assoc,Event.enc,Amount.enc,Proc.enc,Event.ext_iff,Amount.ext_iff,Proc.ext_iff]
@[go_sem] theorem Event.allLen (l:List Event):zg4 7 (l.map Event.enc):=by intro c hc; obtain ⟨x,_,rfl⟩:=List.mem_map.1 hc; exact Event.len x
@[go_sem] theorem Event.allLen1 (x:Event):zg4 7 [Event.enc x]:=by intro c hc; simp at hc; subst hc; exact Event.len x
@[go_sem] theorem Event.pureRows (l:List Event):zs5 (l.map Event.enc):=by intro c hc; obtain ⟨x,_,rfl⟩:=List.mem_map.1 hc; exact zt9 (Event.pure x)
@[go_sem] theorem Event.pureEs (l:List Event):pureEs (l.map Event.enc)=true:=by induction l with
 | nil=>rfl
 | cons a l ih=>simp [Ab.pureEs,Event.pure,ih]
@[go_sem] theorem Event.getD (l:List Event) (i:Nat):(l.map Event.enc).getD i (Event.enc Event.zero)=Event.enc (l.getD i Event.zero):=by
 simp only [List.getD_eq_getElem?_getD,List.getElem?_map]; cases l[i]? <;> rfl
@[go_sem] theorem Event.snoc (l:List Event) (x:Event):l.map Event.enc++[Event.enc x]=(l++[x]).map Event.enc:=by simp
@[go_sem] theorem Event.rep (n:Nat) (x:Event):List.replicate n (Event.enc x)=(List.replicate n x).map Event.enc:=by simp
@[go_sem] theorem Event.set (l:List Event) (i:Nat) (x:Event):(l.map Event.enc).set i (Event.enc x)=(l.set i x).map Event.enc:=by simp [List.map_set]
@[ext] structure Tape where
 l:(List Int)
 at_:Int
def Tape.zero:Tape:=⟨[],0⟩
def Tape.enc (x:Tape):List A:=[A.sl (x.l.map (eI .i64))]++[A.int .i64 x.at_]
@[go_sem] theorem Tape.len (x:Tape):(Tape.enc x).length=2:=by simp [Tape.enc]
@[go_sem] theorem Tape.pure (x:Tape):zg5 (Tape.enc x)=true:=by simp [zg5,A.pure1,Tape.enc]
@[go_sem] theorem Tape.sub_all (x:Tape):sub (Tape.enc x) 0 2=Tape.enc x:=by simp [sub,Tape.enc]
@[go_sem] theorem Tape.upd_all (x y:Tape):upd (Tape.enc x) 0 (Tape.enc y)=Tape.enc y:=by simp [upd,Tape.enc]
@[go_sem] theorem Tape.sub_l (x:Tape):sub (Tape.enc x) 0 1=[A.sl (x.l.map (eI .i64))]:=by simp [sub,Tape.enc]
@[go_sem] theorem Tape.upd_l (x:Tape) (v:(List Int)):upd (Tape.enc x) 0 ([A.sl (v.map (eI .i64))])=Tape.enc { x with l:=v }:=by simp [upd,Tape.enc]
@[go_sem] theorem Tape.sub_at_ (x:Tape):sub (Tape.enc x) 1 1=[A.int .i64 x.at_]:=by simp [sub,Tape.enc]
@[go_sem] theorem Tape.upd_at_ (x:Tape) (v:Int):upd (Tape.enc x) 1 ([A.int .i64 v])=Tape.enc { x with at_:=v }:=by simp [upd,Tape.enc]
@[go_sem] theorem Tape.upd_lit (x:Tape) (c0 c1:A):upd (Tape.enc x) 0 [c0,c1]=[c0,c1]:=by simp [upd,Tape.enc]
@[go_sem] theorem Tape.updo_l (x:Tape) (y lo k:Nat):upd (Tape.enc x) 0 [A.own y lo k]=[A.own y lo k,A.int .i64 x.at_]:=by simp [upd,Tape.enc]
@[go_sem] theorem Tape.allLen (l:List Tape):zg4 2 (l.map Tape.enc):=by intro c hc; obtain ⟨x,_,rfl⟩:=List.mem_map.1 hc; exact Tape.len x
@[go_sem] theorem Tape.allLen1 (x:Tape):zg4 2 [Tape.enc x]:=by intro c hc; simp at hc; subst hc; exact Tape.len x
@[go_sem] theorem Tape.pureRows (l:List Tape):zs5 (l.map Tape.enc):=by intro c hc; obtain ⟨x,_,rfl⟩:=List.mem_map.1 hc; exact zt9 (Tape.pure x)
@[go_sem] theorem Tape.pureEs (l:List Tape):pureEs (l.map Tape.enc)=true:=by induction l with
 | nil=>rfl
 | cons a l ih=>simp [Ab.pureEs,Tape.pure,ih]
@[go_sem] theorem Tape.getD (l:List Tape) (i:Nat):(l.map Tape.enc).getD i (Tape.enc Tape.zero)=Tape.enc (l.getD i Tape.zero):=by
 simp only [List.getD_eq_getElem?_getD,List.getElem?_map]; cases l[i]? <;> rfl
@[go_sem] theorem Tape.snoc (l:List Tape) (x:Tape):l.map Tape.enc++[Tape.enc x]=(l++[x]).map Tape.enc:=by simp
@[go_sem] theorem Tape.rep (n:Nat) (x:Tape):List.replicate n (Tape.enc x)=(List.replicate n x).map Tape.enc:=by simp
@[go_sem] theorem Tape.set (l:List Tape) (i:Nat) (x:Tape):(l.map Tape.enc).set i (Tape.enc x)=(l.set i x).map Tape.enc:=by simp [List.map_set]
end Ab
end Go.Proofs.YtfjeceicgfdmjaaGreatDoor
