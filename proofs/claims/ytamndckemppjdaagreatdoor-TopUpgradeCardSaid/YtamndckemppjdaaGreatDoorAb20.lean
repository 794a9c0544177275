import Derived.Test.YtamndckemppjdaaGreatDoorAb19
namespace Go.Proofs.YtamndckemppjdaaGreatDoor
namespace Ab
set_option linter.unusedSimpArgs false
theorem zaY6{a b:ByteArray}:a.toList=b.toList↔a=b:=by
 constructor
 .intro h;rw[ByteArray.toList_eq,ByteArray.toList_eq]at h;cases a;cases b;simp only[ByteArray.mk.injEq];exact Array.toList_inj.1 (by simpa using h)
 .intro h;rw[h]
def eI(k:IntKind)(x:Int):List A:=[A.int k x]
def eB(x:Bool):List A:=[A.bool x]
def eS(x:ByteArray):List A:=[A.str x]
def eL{α:Type}(f:α->List A)(l:List α):List A:=[A.sl (l.map f)]
@[go_sem] theorem zdm4(a:A):sub [a] 0 1=[a]:=rfl
@[go_sem] theorem zdm5(a b:A):upd [a] 0 [b]=[b]:=rfl
@[go_sem] theorem zcP7{α β:Type}(f:α->β)(l:List α)(n:Nat):(l.map f).take n=(l.take n).map f:=List.map_take.symm
@[go_sem] theorem zcP8{α β:Type}(f:α->β)(l:List α)(n:Nat):(l.map f).drop n=(l.drop n).map f:=List.map_drop.symm
@[go_sem] theorem zcq4{α β:Type}(f:α->β)(l m:List α):l.map f++m.map f=(l++m).map f:=eZ.symm
attribute [go_sem] eK
@[go_sem] theorem zcc7(c:List A)(cs:List (List A)):zN4 (c::cs)↔zk0 c=true/\zN4 cs:=by
 constructor
 .intro h;refine⟨?_,λ d hd=>h d (.tail _ hd)⟩;have:=h c (.head _)
  clear h
  induction c with
  |nil=>rfl
  |cons a c ih=>simp only[zk0,cF];exact⟨this a (.head _),ih λ b hb=>this b (.tail _ hb)⟩
 .rintro⟨h1,h2⟩ d hd;rcases dB.1 hd with rfl|hd
  .exact zY7 h1
  .exact h2 d hd
@[go_sem] theorem zcM5:maxLen=9223372036854775807:=rfl
@[go_sem] theorem eI.getD(k:IntKind)(l:List Int)(i:Nat):(l.map (eI k)).getD i [A.int k 0]=[A.int k (l.getD i 0)]:=by simp only[cK,cP];cases l[i]? <;>rfl
@[go_sem] theorem eI.snoc(k:IntKind)(l:List Int)(x:Int):l.map (eI k)++[[A.int k x]]=(l++[x]).map (eI k):=by simp[eI]
@[go_sem] theorem eI.pureRows(k:IntKind)(l:List Int):zN4 (l.map (eI k)):=by intro c hc;obtain⟨x,_,rfl⟩:=cS.1 hc;intro a ha;simp[eI]at ha;subst ha;rfl
@[go_sem] theorem eI.pureEs(k:IntKind)(l:List Int):pureEs (l.map (eI k))=true:=by induction l with
 |nil=>rfl
 |cons a l ih=>simpa [Ab.pureEs,zk0,A.pure1,eI]using ih
@[go_sem] theorem eB.getD(l:List Bool)(i:Nat):(l.map eB).getD i [A.bool false]=[A.bool (l.getD i false)]:=by simp only[cK,cP];cases l[i]? <;>rfl
@[go_sem] theorem eB.snoc(l:List Bool)(x:Bool):l.map eB++[[A.bool x]]=(l++[x]).map eB:=by simp[eB]
@[go_sem] theorem eB.set(l:List Bool)(i:Nat)(x:Bool):(l.map eB).set i [A.bool x]=(l.set i x).map eB:=by simp[List.map_set,eB]
@[go_sem] theorem eB.rep(n:Nat)(x:Bool):List.replicate n [A.bool x]=(List.replicate n x).map eB:=by simp[eB]
@[go_sem] theorem eB.allLen(l:List Bool):zH7 1 (l.map eB):=by intro c hc;obtain⟨x,_,rfl⟩:=cS.1 hc;rfl
@[go_sem] theorem eB.pureRows(l:List Bool):zN4 (l.map eB):=by intro c hc;obtain⟨x,_,rfl⟩:=cS.1 hc;intro a ha;simp[eB]at ha;subst ha;rfl
@[go_sem] theorem eB.pureEs(l:List Bool):pureEs (l.map eB)=true:=by induction l with
 |nil=>rfl
 |cons a l ih=>simpa [Ab.pureEs,zk0,A.pure1,eB]using ih
@[go_sem] theorem eS.getD(l:List ByteArray)(i:Nat):(l.map eS).getD i [A.str ⟨#[]⟩]=[A.str (l.getD i ⟨#[]⟩)]:=by simp only[cK,cP];cases l[i]? <;>rfl
@[go_sem] theorem eS.snoc(l:List ByteArray)(x:ByteArray):l.map eS++[[A.str x]]=(l++[x]).map eS:=by simp[eS]
@[go_sem] theorem eS.set(l:List ByteArray)(i:Nat)(x:ByteArray):(l.map eS).set i [A.str x]=(l.set i x).map eS:=by simp[List.map_set,eS]
@[go_sem] theorem eS.rep(n:Nat)(x:ByteArray):List.replicate n [A.str x]=(List.replicate n x).map eS:=by simp[eS]
@[go_sem] theorem eS.pureRows(l:List ByteArray):zN4 (l.map eS):=by intro c hc;obtain⟨x,_,rfl⟩:=cS.1 hc;intro a ha;simp[eS]at ha;subst ha;rfl
@[go_sem] theorem eS.pureEs(l:List ByteArray):pureEs (l.map eS)=true:=by induction l with
 |nil=>rfl
 |cons a l ih=>simpa [Ab.pureEs,zk0,A.pure1,eS]using ih
@[go_sem] theorem eL.getD{α:Type}(f:α->List A)(l:List (List α))(i:Nat):(l.map (eL f)).getD i [A.sl (([]:List α).map f)]=[A.sl ((l.getD i []).map f)]:=by simp only[cK,cP];cases l[i]? <;>rfl
@[go_sem] theorem eL.getD0{α:Type}(f:α->List A)(l:List (List α))(i:Nat):(l.map (eL f)).getD i [A.sl []]=[A.sl ((l.getD i []).map f)]:=eL.getD f l i
@[go_sem] theorem eL.pureRows{α:Type}(f:α->List A)(l:List (List α)):zN4 (l.map (eL f)):=by intro c hc;obtain⟨x,_,rfl⟩:=cS.1 hc;intro a ha;simp[eL]at ha;subst ha;rfl
@[go_sem] theorem eL.pureEs{α:Type}(f:α->List A)(l:List (List α)):pureEs (l.map (eL f))=true:=by induction l with
 |nil=>rfl
 |cons a l ih=>simpa [Ab.pureEs,zk0,A.pure1,eL]using ih
@[ext] structure Arr (α:Type) (n:Nat) where
 l:List α
 h:l.length=n
instance{α:Type}[DecidableEq α]{n:Nat}:DecidableEq (Arr α n):=λ a b=>decidable_of_iff (a.l=b.l) (by rw[Arr.ext_iff])
def Arr.get{α:Type}{n:Nat}(a:Arr α n)(i:Nat)(z:α):α:=a.l.getD (zF8 i n) z
def Arr.put{α:Type}{n:Nat}(a:Arr α n)(i:Nat)(x:α):Arr α n:=⟨a.l.set (zF8 i n) x,by simp[a.h]⟩
def Arr.rep{α:Type}(n:Nat)(x:α):Arr α n:=⟨List.replicate n x,by simp⟩
def Arr.enc{α:Type}{n:Nat}(f:α->List A)(a:Arr α n):List A:=(a.l.map f).flatten
theorem zbz6{α:Type}(f:α->List A)(sz:Nat)(hf:∀x,(f x).length=sz):∀l:List α,(l.map f).flatten.length=l.length*sz
 |[]=>by simp
 |a::l=>by simp only[dI,List.flatten_cons,cX,hf,zbz6 f sz hf l,List.length_cons];rw[dK];omega
theorem zbK9{α:Type}(f:α->List A)(sz:Nat)(hf:∀x,(f x).length=sz)(z:α):∀(l:List α) (i:Nat),i<l.length->sub (l.map f).flatten (i*sz) sz=f (l.getD i z)
 |[],i,h=>by simp at h
 |a::l,0,_=>by simp[sub,hf a]
 |a::l,i+1,h=>by have:=zbK9 f sz hf z l i (by simpa using h);simp only[sub,dI,List.flatten_cons,List.getD_cons_succ]at this⊢;rw[<-this,iR,List.drop_eq_nil_of_le (by rw[hf,dK];omega),hf,List.nil_append];congr 2;rw[dK];omega
theorem zbz7{α:Type}(f:α->List A)(sz:Nat)(hf:∀x,(f x).length=sz)(x:α):∀(l:List α) (i:Nat),i<l.length->upd (l.map f).flatten (i*sz) (f x)=((l.set i x).map f).flatten
 |[],i,h=>by simp at h
 |a::l,0,_=>by simp[upd,hf]
 |a::l,i+1,h=>by
  have:=zbz7 f sz hf x l i (by simpa using h);simp only[upd,dI,List.flatten_cons,List.set_cons_succ]at this⊢;rw[<-this];have e:(i+1)*sz=(f a).length+i*sz:=by rw[hf,dK];omega
  rw[e,List.take_length_add_append,eT,List.drop_length_add_append];simp[dW]
@[go_sem] theorem Arr.enc_len{α:Type}{n:Nat}(f:α->List A)(a:Arr α n)(sz:Nat)(hf:∀x,(f x).length=sz):(Arr.enc f a).length=n*sz:=by rw[Arr.enc,zbz6 f sz hf,a.h]
theorem zaq3{i n:Nat}(h:0<n):zF8 i n<n:=by unfold zF8;split<;>omega
theorem zaE1{i n:Nat}(h:i<n):zF8 i n=i:=cQ h
theorem zbt3{α:Type}{n sz:Nat}(f:α->List A)(hf:∀x,(f x).length=sz)(z:α)(a:Arr α (n+1))(i:Nat):sub (Arr.enc f a) (zF8 i (n+1)*sz) sz=f (a.get i z):=zbK9 f sz hf z a.l _ (by rw[a.h];exact zaq3 (by omega))
theorem zbL0{α:Type}{n sz:Nat}(f:α->List A)(hf:∀x,(f x).length=sz)(a:Arr α (n+1))(i:Nat)(x:α):upd (Arr.enc f a) (zF8 i (n+1)*sz) (f x)=Arr.enc f (a.put i x):=zbz7 f sz hf x a.l _ (by rw[a.h];exact zaq3 (by omega))
attribute [go_sem] zaE1
@[go_sem] theorem zcM6(i n:Nat):(zF8 i (n+1)<=n)=True:=by have:=zaq3 (i:=i) (n:=n+1) (by omega);exact eq_true (by omega)
section
variable {n:Nat}
@[go_sem] theorem eI.alen(k:IntKind)(a:Arr Int n):(Arr.enc (eI k) a).length=n:=by rw[Arr.enc_len _ _ 1 (λ _=>rfl),eP]
@[go_sem] theorem eB.alen(a:Arr Bool n):(Arr.enc eB a).length=n:=by rw[Arr.enc_len _ _ 1 (λ _=>rfl),eP]
@[go_sem] theorem eI.aat(k:IntKind)(a:Arr Int (n+1))(i:Nat):sub (Arr.enc (eI k) a) (zF8 i (n+1)) 1=[A.int k (a.get i 0)]:=by have:=zbt3 (eI k) (sz:=1) (λ _=>rfl) 0 a i;rwa [eP]at this
@[go_sem] theorem eI.aput(k:IntKind)(a:Arr Int (n+1))(i:Nat)(x:Int):upd (Arr.enc (eI k) a) (zF8 i (n+1)) [A.int k x]=Arr.enc (eI k) (a.put i x):=by have:=zbL0 (eI k) (sz:=1) (λ _=>rfl) a i x;rwa [eP]at this
@[go_sem] theorem eI.aputc(k:IntKind)(a:Arr Int (n+1))(i:Nat)(x:Int)(h:i<n+1):upd (Arr.enc (eI k) a) i [A.int k x]=Arr.enc (eI k) (a.put i x):=by have:=eI.aput k a i x;rwa [zaE1 h]at this
@[go_sem] theorem eB.aat(a:Arr Bool (n+1))(i:Nat):sub (Arr.enc eB a) (zF8 i (n+1)) 1=[A.bool (a.get i false)]:=by have:=zbt3 eB (sz:=1) (λ _=>rfl) false a i;rwa [eP]at this
@[go_sem] theorem eB.aat2{m:Nat}(a:Arr (Arr Bool (m+1)) (n+1))(i j:Nat):sub (Arr.enc (Arr.enc eB) a) (zF8 i (n+1)*(m+1)+zF8 j (m+1)) 1=[A.bool ((a.get i (Arr.rep (m+1) false)).get j false)]:=by have h1:=zbt3 (sz:=m+1) (Arr.enc eB) (λ x=>eB.alen x) (Arr.rep (m+1) false) a i;have h2:=eB.aat (a.get i (Arr.rep (m+1) false)) j;have hj:=zaq3 (i:=j) (n:=m+1) (by omega);rw[<-h2,<-h1];simp only[sub,List.drop_take,List.take_take,fD];congr 1;omega
@[go_sem] theorem zcq5(i j n m k:Nat)(h:(n+1)*(m+1)<=k+1):(zF8 i (n+1)*(m+1)+zF8 j (m+1)<=k)=True:=by have h1:=zaq3 (i:=i) (n:=n+1) (by omega);have h2:=zaq3 (i:=j) (n:=m+1) (by omega);have h3:(zF8 i (n+1)+1)*(m+1)<=(n+1)*(m+1):=dC _ h1;rw[dK]at h3;exact eq_true (by omega)
@[go_sem] theorem eB.aput(a:Arr Bool (n+1))(i:Nat)(x:Bool):upd (Arr.enc eB a) (zF8 i (n+1)) [A.bool x]=Arr.enc eB (a.put i x):=by have:=zbL0 eB (sz:=1) (λ _=>rfl) a i x;rwa [eP]at this
@[go_sem] theorem eB.aputc(a:Arr Bool (n+1))(i:Nat)(x:Bool)(h:i<n+1):upd (Arr.enc eB a) i [A.bool x]=Arr.enc eB (a.put i x):=by have:=eB.aput a i x;rwa [zaE1 h]at this
@[go_sem] theorem eB.aall(a b:Arr Bool n):upd (Arr.enc eB a) 0 (Arr.enc eB b)=Arr.enc eB b:=by simp[upd,eB.alen]
@[go_sem] theorem eI.asub(k:IntKind)(a:Arr Int n):sub (Arr.enc (eI k) a) 0 n=Arr.enc (eI k) a:=by rw[sub,iI,eK (by rw[eI.alen];exact cU _)]
@[go_sem] theorem eB.asub(a:Arr Bool n):sub (Arr.enc eB a) 0 n=Arr.enc eB a:=by rw[sub,iI,eK (by rw[eB.alen];exact cU _)]
theorem zaw0{α:Type}(f:α->List A)(hf:∀x,zk0 (f x)=true):∀l:List α,zk0 (l.map f).flatten=true
 |[]=>rfl
 |a::l=>by
  have h1:=hf a;have h2:=zaw0 f hf l;have:∀x y:List A,zk0 x=true->zk0 y=true->zk0 (x++y)=true:=λ x y hx hy=>by
   induction x with
   |nil=>exact hy
   |cons c x ih=>simp only[zk0,cF,List.cons_append]at hx⊢;exact⟨hx.1,ih hx.2⟩
  simpa using this _ _ h1 h2
@[go_sem] theorem eL.alen{α:Type}(f:α->List A)(a:Arr (List α) n):(Arr.enc (eL f) a).length=n:=by rw[Arr.enc_len _ _ 1 (λ _=>rfl),eP]
@[go_sem] theorem eL.aat{α:Type}(f:α->List A)(a:Arr (List α) (n+1))(i:Nat):sub (Arr.enc (eL f) a) (zF8 i (n+1)) 1=[A.sl ((a.get i []).map f)]:=by have:=zbt3 (eL f) (sz:=1) (λ _=>rfl) [] a i;rwa [eP]at this
@[go_sem] theorem eL.apure{α:Type}(f:α->List A)(a:Arr (List α) n):zk0 (Arr.enc (eL f) a)=true:=zaw0 _ (λ _=>rfl) _
@[go_sem] theorem eI.apure(k:IntKind)(a:Arr Int n):zk0 (Arr.enc (eI k) a)=true:=zaw0 _ (λ _=>rfl) _
@[go_sem] theorem eB.apure(a:Arr Bool n):zk0 (Arr.enc eB a)=true:=zaw0 _ (λ _=>rfl) _
end
@[go_sem] theorem zdo2{α:Type}(f:α->List A)(n:Nat):(List.replicate n ([]:List α)).map (eL f)=List.replicate n [A.sl []]:=by simp[eL]
@[go_sem] theorem zcq6(n:Nat):pureEs (List.replicate n [A.sl []])=true:=by
 induction n with
 |zero=>rfl
 |succ n ih=>simp[List.replicate_succ,Ab.pureEs,zk0,A.pure1,ih]
class En (T:Type) where
 sz:Nat
 e:T->List A
 z:T
attribute [go_sem] En.sz En.e En.z
@[go_sem] abbrev bx{T:Type}[En T](v:T):Row:=⟨false,En.sz T,En.e (En.z:T),[En.e v]⟩
@[go_sem] abbrev sx{T:Type}[En T](v:List T):Row:=⟨false,En.sz T,En.e (En.z:T),v.map En.e⟩
@[go_sem] abbrev ga{T:Type}[En T](v:T):A:=.agg (En.e v)
@[go_sem] abbrev la{T:Type}[En T](v:List T):A:=.sl (v.map En.e)
section
variable {T:Type} {f:T→List A}
@[go_sem] theorem zcq7{n:Nat}(h:∀x,(f x).length=n)(l:List T):zH7 n (l.map f):=by intro c hc;obtain⟨x,_,rfl⟩:=cS.1 hc;exact h x
@[go_sem] theorem zcf8(h:∀x,zk0 (f x)=true)(l:List T):zN4 (l.map f):=by intro c hc;obtain⟨x,_,rfl⟩:=cS.1 hc;exact zY7 (h x)
@[go_sem] theorem zcq8(h:∀x,zk0 (f x)=true)(l:List T):pureEs (l.map f)=true:=by induction l with
 |nil=>rfl
 |cons a l ih=>simp[Ab.pureEs,h,ih]
@[go_sem] theorem zcP9(l:List T)(i:Nat)(z:T):(l.map f).getD i (f z)=f (l.getD i z):=by simp only[cK,cP];cases l[i]? <;>rfl
@[go_sem] theorem zcQ0(l:List T)(x:T):l.map f++[f x]=(l++[x]).map f:=by simp
@[go_sem] theorem zdm6(l:List T)(i:Nat)(x:T):(l.map f).set i (f x)=(l.set i x).map f:=by simp[List.map_set]
end
@[ext] structure aG where
 name:ByteArray
 (kind bJ home:Int)
 deriving DecidableEq
namespace aG
def zero:aG:=⟨⟨#[]⟩,0,0,0⟩
def enc(x:aG):List A:=[A.str x.name,A.int .i64 x.kind,A.int .i64 x.bJ,A.int .i64 x.home]
@[go_sem] theorem len(x:aG):(enc x).length=4:=by simp[enc]
instance:En aG:=⟨4,enc,zero⟩
@[go_sem] theorem laws(x:aG):
 zk0 (enc x)=true/\
 zs0 (enc x)=true/\
 zo2 [.s,.i .i64,.i .i64,.i .i64] (enc x)=true/\
 sub (enc x) 0 4=enc x/\
 (∀y,upd (enc x) 0 (enc y)=enc y)/\
 sub (enc x) 0 1=[A.str x.name]/\
 sub (enc x) 1 1=[A.int .i64 x.kind]/\
 sub (enc x) 2 1=[A.int .i64 x.bJ]/\
 sub (enc x) 3 1=[A.int .i64 x.home]/\
 (∀v,upd (enc x) 0 ([A.str v])=enc {x with name:=v})/\
 (∀v,upd (enc x) 1 ([A.int .i64 v])=enc {x with kind:=v})/\
 (∀v,upd (enc x) 2 ([A.int .i64 v])=enc {x with bJ:=v})/\
 (∀(c0 c1 c2 c3:A) (cs:List A),upd (c0::c1::c2::c3::cs) 0 (enc x)=A.str x.name::A.int .i64 x.kind::A.int .i64 x.bJ::A.int .i64 x.home::cs)/\
 (∀(c0 c1 c2 c3:A),upd (enc x) 0 [c0,c1,c2,c3]=[c0,c1,c2,c3]):=by simp[sub,upd,zk0,A.pure1,zs0,A.scal1,zo2,LK.fits,dH,enc]
end aG
@[ext] structure aF where
 (site inc num:Int)
 deriving DecidableEq
namespace aF
def zero:aF:=⟨0,0,0⟩
def enc(x:aF):List A:=[A.int .i64 x.site,A.int .i64 x.inc,A.int .i64 x.num]
@[go_sem] theorem len(x:aF):(enc x).length=3:=by simp[enc]
instance:En aF:=⟨3,enc,zero⟩
@[go_sem] theorem laws(x:aF):
 zk0 (enc x)=true/\
 zs0 (enc x)=true/\
 zo2 [.i .i64,.i .i64,.i .i64] (enc x)=true/\
 sub (enc x) 0 3=enc x/\
 (∀y,upd (enc x) 0 (enc y)=enc y)/\
 sub (enc x) 0 1=[A.int .i64 x.site]/\
 sub (enc x) 1 1=[A.int .i64 x.inc]/\
 sub (enc x) 2 1=[A.int .i64 x.num]/\
 (∀v,upd (enc x) 0 ([A.int .i64 v])=enc {x with site:=v})/\
 (∀v,upd (enc x) 1 ([A.int .i64 v])=enc {x with inc:=v})/\
 (∀v,upd (enc x) 2 ([A.int .i64 v])=enc {x with num:=v})/\
 (∀(c0 c1 c2:A) (cs:List A),upd (c0::c1::c2::cs) 0 (enc x)=A.int .i64 x.site::A.int .i64 x.inc::A.int .i64 x.num::cs)/\
 (∀(c0 c1 c2:A),upd (enc x) 0 [c0,c1,c2]=[c0,c1,c2]):=by simp[sub,upd,zk0,A.pure1,zs0,A.scal1,zo2,LK.fits,dH,enc]
@[go_sem] theorem eq(x y:aF):eqA (enc x) (enc y)=decide (x=y):=by rw[iF];simp[eqA,eq1,zaY6,fQ,enc,aF.ext_iff]
@[go_sem] theorem rep(n:Nat)(x:aF):List.replicate n (enc x)=(List.replicate n x).map enc:=by simp
end aF
@[ext] structure aJ where
 (mode bJ:Int)
 deriving DecidableEq
namespace aJ
def zero:aJ:=⟨0,0⟩
def enc(x:aJ):List A:=[A.int .i64 x.mode,A.int .i64 x.bJ]
@[go_sem] theorem len(x:aJ):(enc x).length=2:=by simp[enc]
instance:En aJ:=⟨2,enc,zero⟩
@[go_sem] theorem laws(x:aJ):
 zk0 (enc x)=true/\
 zs0 (enc x)=true/\
 zo2 [.i .i64,.i .i64] (enc x)=true/\
 sub (enc x) 0 2=enc x/\
 (∀y,upd (enc x) 0 (enc y)=enc y)/\
 sub (enc x) 0 1=[A.int .i64 x.mode]/\
 sub (enc x) 1 1=[A.int .i64 x.bJ]/\
 (∀v,upd (enc x) 0 ([A.int .i64 v])=enc {x with mode:=v})/\
 (∀v,upd (enc x) 1 ([A.int .i64 v])=enc {x with bJ:=v})/\
 (∀(c0 c1:A) (cs:List A),upd (c0::c1::cs) 0 (enc x)=A.int .i64 x.mode::A.int .i64 x.bJ::cs)/\
 (∀(c0 c1:A),upd (enc x) 0 [c0,c1]=[c0,c1]):=by simp[sub,upd,zk0,A.pure1,zs0,A.scal1,zo2,LK.fits,dH,enc]
@[go_sem] theorem eq(x y:aJ):eqA (enc x) (enc y)=decide (x=y):=by rw[iF];simp[eqA,eq1,zaY6,fQ,enc,aJ.ext_iff]
end aJ
@[ext] structure bF where
 aZ:aF
 aY:aJ
 deriving DecidableEq
namespace bF
def zero:bF:=⟨aF.zero,aJ.zero⟩
def enc(x:bF):List A:=aF.enc x.aZ++aJ.enc x.aY
@[go_sem] theorem len(x:bF):(enc x).length=5:=by simp[enc,aJ.len,aF.len]
instance:En bF:=⟨5,enc,zero⟩
@[go_sem] theorem laws(x:bF):
 zk0 (enc x)=true/\
 zs0 (enc x)=true/\
 zo2 [.i .i64,.i .i64,.i .i64,.i .i64,.i .i64] (enc x)=true/\
 sub (enc x) 0 5=enc x/\
 (∀y,upd (enc x) 0 (enc y)=enc y)/\
 sub (enc x) 0 3=aF.enc x.aZ/\
 sub (enc x) 3 2=aJ.enc x.aY/\
 (∀v,upd (enc x) 0 (aF.enc v)=enc {x with aZ:=v})/\
 (∀v,upd (enc x) 3 (aJ.enc v)=enc {x with aY:=v})/\
 (∀(c0 c1 c2 c3 c4:A) (cs:List A),upd (c0::c1::c2::c3::c4::cs) 0 (enc x)=A.int .i64 x.aZ.site::A.int .i64 x.aZ.inc::A.int .i64 x.aZ.num::A.int .i64 x.aY.mode::A.int .i64 x.aY.bJ::cs)/\
 (∀(c0 c1 c2 c3 c4:A),upd (enc x) 0 [c0,c1,c2,c3,c4]=[c0,c1,c2,c3,c4]):=by simp[sub,upd,zk0,A.pure1,zs0,A.scal1,zo2,LK.fits,dH,enc,aJ.enc,aF.enc]
@[go_sem] theorem rep(n:Nat)(x:bF):List.replicate n (enc x)=(List.replicate n x).map enc:=by simp
end bF
@[ext] structure aW where
 aZ:aF
 aY:aJ
 (bT cC:Int)
 deriving DecidableEq
namespace aW
def zero:aW:=⟨aF.zero,aJ.zero,0,0⟩
def enc(x:aW):List A:=aF.enc x.aZ++aJ.enc x.aY++[A.int .i64 x.bT,A.int .i64 x.cC]
@[go_sem] theorem len(x:aW):(enc x).length=7:=by simp[enc,aJ.len,aF.len]
instance:En aW:=⟨7,enc,zero⟩
@[go_sem] theorem laws(x:aW):
 zk0 (enc x)=true/\
 zs0 (enc x)=true/\
 zo2 [.i .i64,.i .i64,.i .i64,.i .i64,.i .i64,.i .i64,.i .i64] (enc x)=true/\
 sub (enc x) 0 7=enc x/\
 (∀y,upd (enc x) 0 (enc y)=enc y)/\
 sub (enc x) 0 3=aF.enc x.aZ/\
 sub (enc x) 3 2=aJ.enc x.aY/\
 sub (enc x) 5 1=[A.int .i64 x.bT]/\
 sub (enc x) 6 1=[A.int .i64 x.cC]/\
 (∀v,upd (enc x) 0 (aF.enc v)=enc {x with aZ:=v})/\
 (∀v,upd (enc x) 3 (aJ.enc v)=enc {x with aY:=v})/\
 (∀v,upd (enc x) 5 ([A.int .i64 v])=enc {x with bT:=v})/\
 (∀v,upd (enc x) 6 ([A.int .i64 v])=enc {x with cC:=v})/\
 (∀(c0 c1 c2 c3 c4 c5 c6:A) (cs:List A),upd (c0::c1::c2::c3::c4::c5::c6::cs) 0 (enc x)=A.int .i64 x.aZ.site::A.int .i64 x.aZ.inc::A.int .i64 x.aZ.num::A.int .i64 x.aY.mode::A.int .i64 x.aY.bJ::A.int .i64 x.bT::A.int .i64 x.cC::cs)/\
 (∀(c0 c1 c2 c3 c4 c5 c6:A),upd (enc x) 0 [c0,c1,c2,c3,c4,c5,c6]=[c0,c1,c2,c3,c4,c5,c6]):=by simp[sub,upd,zk0,A.pure1,zs0,A.scal1,zo2,LK.fits,dH,enc,aJ.enc,aF.enc]
@[go_sem] theorem rep(n:Nat)(x:aW):List.replicate n (enc x)=(List.replicate n x).map enc:=by simp
end aW
@[ext] structure aC where
 aQ:aG
 bR:(List bF)
 (aV bO:(List aW))
 gen:Int
namespace aC
def zero:aC:=⟨aG.zero,[],[],[],0⟩
def enc(x:aC):List A:=aG.enc x.aQ++[A.sl (x.bR.map bF.enc),A.sl (x.aV.map aW.enc),A.sl (x.bO.map aW.enc),A.int .i64 x.gen]
@[go_sem] theorem len(x:aC):(enc x).length=8:=by simp[enc,aG.len]
instance:En aC:=⟨8,enc,zero⟩
@[go_sem] theorem laws(x:aC):
 zk0 (enc x)=true/\
 zs0 (enc x)=false/\
 sub (enc x) 0 8=enc x/\
 (∀y,upd (enc x) 0 (enc y)=enc y)/\
 sub (enc x) 0 4=aG.enc x.aQ/\
 sub (enc x) 0 1=[A.str x.aQ.name]/\
 sub (enc x) 4 1=[A.sl (x.bR.map bF.enc)]/\
 sub (enc x) 5 1=[A.sl (x.aV.map aW.enc)]/\
 sub (enc x) 6 1=[A.sl (x.bO.map aW.enc)]/\
 sub (enc x) 7 1=[A.int .i64 x.gen]/\
 (∀v,upd (enc x) 0 (aG.enc v)=enc {x with aQ:=v})/\
 (∀v,upd (enc x) 4 ([A.sl (v.map bF.enc)])=enc {x with bR:=v})/\
 (∀v,upd (enc x) 5 ([A.sl (v.map aW.enc)])=enc {x with aV:=v})/\
 (∀v,upd (enc x) 6 ([A.sl (v.map aW.enc)])=enc {x with bO:=v})/\
 (∀v,upd (enc x) 7 ([A.int .i64 v])=enc {x with gen:=v})/\
 (∀(c0 c1 c2 c3 c4 c5 c6 c7:A) (cs:List A),upd (c0::c1::c2::c3::c4::c5::c6::c7::cs) 0 (enc x)=A.str x.aQ.name::A.int .i64 x.aQ.kind::A.int .i64 x.aQ.bJ::A.int .i64 x.aQ.home::A.sl (x.bR.map bF.enc)::A.sl (x.aV.map aW.enc)::A.sl (x.bO.map aW.enc)::A.int .i64 x.gen::cs)/\
 (∀(c0 c1 c2 c3 c4 c5 c6 c7:A),upd (enc x) 0 [c0,c1,c2,c3,c4,c5,c6,c7]=[c0,c1,c2,c3,c4,c5,c6,c7])/\
 (∀y lo k,upd (enc x) 4 [.own y lo k]=[A.str x.aQ.name,A.int .i64 x.aQ.kind,A.int .i64 x.aQ.bJ,A.int .i64 x.aQ.home,.own y lo k,A.sl (x.aV.map aW.enc),A.sl (x.bO.map aW.enc),A.int .i64 x.gen])/\
 (∀y lo k,upd (enc x) 5 [.own y lo k]=[A.str x.aQ.name,A.int .i64 x.aQ.kind,A.int .i64 x.aQ.bJ,A.int .i64 x.aQ.home,A.sl (x.bR.map bF.enc),.own y lo k,A.sl (x.bO.map aW.enc),A.int .i64 x.gen])/\
 (∀y lo k,upd (enc x) 6 [.own y lo k]=[A.str x.aQ.name,A.int .i64 x.aQ.kind,A.int .i64 x.aQ.bJ,A.int .i64 x.aQ.home,A.sl (x.bR.map bF.enc),A.sl (x.aV.map aW.enc),.own y lo k,A.int .i64 x.gen]):=by simp[sub,upd,zk0,A.pure1,zs0,A.scal1,zo2,LK.fits,dH,enc,aG.enc]
@[go_sem] theorem rep(n:Nat)(x:aC):List.replicate n (enc x)=(List.replicate n x).map enc:=by simp
end aC
@[ext] structure bX where
 name:ByteArray
 (before after:aJ)
 deriving DecidableEq
namespace bX
def zero:bX:=⟨⟨#[]⟩,aJ.zero,aJ.zero⟩
def enc(x:bX):List A:=[A.str x.name]++aJ.enc x.before++aJ.enc x.after
@[go_sem] theorem len(x:bX):(enc x).length=5:=by simp[enc,aJ.len]
instance:En bX:=⟨5,enc,zero⟩
@[go_sem] theorem laws(x:bX):
 zk0 (enc x)=true/\
 zs0 (enc x)=true/\
 zo2 [.s,.i .i64,.i .i64,.i .i64,.i .i64] (enc x)=true/\
 sub (enc x) 0 5=enc x/\
 (∀y,upd (enc x) 0 (enc y)=enc y)/\
 sub (enc x) 0 1=[A.str x.name]/\
 sub (enc x) 1 2=aJ.enc x.before/\
 sub (enc x) 3 2=aJ.enc x.after/\
 (∀v,upd (enc x) 0 ([A.str v])=enc {x with name:=v})/\
 (∀v,upd (enc x) 1 (aJ.enc v)=enc {x with before:=v})/\
 (∀v,upd (enc x) 3 (aJ.enc v)=enc {x with after:=v})/\
 (∀(c0 c1 c2 c3 c4:A) (cs:List A),upd (c0::c1::c2::c3::c4::cs) 0 (enc x)=A.str x.name::A.int .i64 x.before.mode::A.int .i64 x.before.bJ::A.int .i64 x.after.mode::A.int .i64 x.after.bJ::cs)/\
 (∀(c0 c1 c2 c3 c4:A),upd (enc x) 0 [c0,c1,c2,c3,c4]=[c0,c1,c2,c3,c4]):=by simp[sub,upd,zk0,A.pure1,zs0,A.scal1,zo2,LK.fits,dH,enc,aJ.enc]
end bX
@[ext] structure bY where
 (label at_:Int)
 deriving DecidableEq
namespace bY
def zero:bY:=⟨0,0⟩
def enc(x:bY):List A:=[A.int .i64 x.label,A.int .i64 x.at_]
@[go_sem] theorem len(x:bY):(enc x).length=2:=by simp[enc]
instance:En bY:=⟨2,enc,zero⟩
@[go_sem] theorem laws(x:bY):
 zk0 (enc x)=true/\
 zs0 (enc x)=true/\
 zo2 [.i .i64,.i .i64] (enc x)=true/\
 sub (enc x) 0 2=enc x/\
 (∀y,upd (enc x) 0 (enc y)=enc y)/\
 sub (enc x) 0 1=[A.int .i64 x.label]/\
 sub (enc x) 1 1=[A.int .i64 x.at_]/\
 (∀(c0 c1:A) (cs:List A),upd (c0::c1::cs) 0 (enc x)=A.int .i64 x.label::A.int .i64 x.at_::cs)/\
 (∀(c0 c1:A),upd (enc x) 0 [c0,c1]=[c0,c1]):=by simp[sub,upd,zk0,A.pure1,zs0,A.scal1,zo2,LK.fits,dH,enc]
end bY
@[ext] structure bG where
 bB:(List bX)
 cB:(List bY)
namespace bG
def zero:bG:=⟨[],[]⟩
def enc(x:bG):List A:=[A.sl (x.bB.map bX.enc),A.sl (x.cB.map bY.enc)]
@[go_sem] theorem len(x:bG):(enc x).length=2:=by simp[enc]
instance:En bG:=⟨2,enc,zero⟩
@[go_sem] theorem laws(x:bG):
 zk0 (enc x)=true/\
 zs0 (enc x)=false/\
 sub (enc x) 0 2=enc x/\
 (∀y,upd (enc x) 0 (enc y)=enc y)/\
 sub (enc x) 0 1=[A.sl (x.bB.map bX.enc)]/\
 sub (enc x) 1 1=[A.sl (x.cB.map bY.enc)]/\
 (∀v,upd (enc x) 0 ([A.sl (v.map bX.enc)])=enc {x with bB:=v})/\
 (∀v,upd (enc x) 1 ([A.sl (v.map bY.enc)])=enc {x with cB:=v})/\
 (∀(c0 c1:A) (cs:List A),upd (c0::c1::cs) 0 (enc x)=A.sl (x.bB.map bX.enc)::A.sl (x.cB.map bY.enc)::cs)/\
 (∀(c0 c1:A),upd (enc x) 0 [c0,c1]=[c0,c1])/\
 (∀y lo k,upd (enc x) 0 [.own y lo k]=[.own y lo k,A.sl (x.cB.map bY.enc)])/\
 (∀y lo k,upd (enc x) 1 [.own y lo k]=[A.sl (x.bB.map bX.enc),.own y lo k]):=by simp[sub,upd,zk0,A.pure1,zs0,A.scal1,zo2,LK.fits,dH,enc]
end bG
@[ext] structure aO where
 name:ByteArray
 aY:aJ
 deriving DecidableEq
namespace aO
def zero:aO:=⟨⟨#[]⟩,aJ.zero⟩
def enc(x:aO):List A:=[A.str x.name]++aJ.enc x.aY
@[go_sem] theorem len(x:aO):(enc x).length=3:=by simp[enc,aJ.len]
instance:En aO:=⟨3,enc,zero⟩
@[go_sem] theorem laws(x:aO):
 zk0 (enc x)=true/\
 zs0 (enc x)=true/\
 zo2 [.s,.i .i64,.i .i64] (enc x)=true/\
 sub (enc x) 0 3=enc x/\
 (∀y,upd (enc x) 0 (enc y)=enc y)/\
 sub (enc x) 0 1=[A.str x.name]/\
 sub (enc x) 1 2=aJ.enc x.aY/\
 (∀v,upd (enc x) 0 ([A.str v])=enc {x with name:=v})/\
 (∀v,upd (enc x) 1 (aJ.enc v)=enc {x with aY:=v})/\
 (∀(c0 c1 c2:A) (cs:List A),upd (c0::c1::c2::cs) 0 (enc x)=A.str x.name::A.int .i64 x.aY.mode::A.int .i64 x.aY.bJ::cs)/\
 (∀(c0 c1 c2:A),upd (enc x) 0 [c0,c1,c2]=[c0,c1,c2]):=by simp[sub,upd,zk0,A.pure1,zs0,A.scal1,zo2,LK.fits,dH,enc,aJ.enc]
@[go_sem] theorem eq(x y:aO):eqA (enc x) (enc y)=decide (x=y):=by rw[iF];simp[eqA,eq1,zaY6,fQ,enc,aJ.enc,aO.ext_iff,aJ.ext_iff]
end aO
@[ext] structure aP where
 k:Int
 bV:aO
 bU:(List aP)
namespace aP
def zero:aP:=⟨0,aO.zero,[]⟩
def enc(x:aP):List A:=[A.int .i64 x.k]++aO.enc x.bV++[A.sl (x.bU.map aP.enc)]
termination_by _root_.SizeOf.sizeOf x
decreasing_by
 rename_i h;have h2:=List.sizeOf_lt_of_mem h;cases x;simp at h2⊢;omega
@[simp] theorem enc_mk(k:Int)(bV:aO)(bU:(List aP)):enc ⟨k,bV,bU⟩=[A.int .i64 k,A.str bV.name,A.int .i64 bV.aY.mode,A.int .i64 bV.aY.bJ,A.sl (bU.map aP.enc)]:=by simp[enc,aJ.enc,aO.enc]
@[simp] theorem zero_:zero.k=0/\zero.bV.name=⟨#[]⟩/\zero.bV.aY.mode=0/\zero.bV.aY.bJ=0/\zero.bU=[]:=by and_intros<;>rfl
@[go_sem] theorem len(x:aP):(enc x).length=5:=by simp[enc,aO.len]
instance:En aP:=⟨5,enc,zero⟩
@[go_sem] theorem laws(x:aP):
 zk0 (enc x)=true/\
 zs0 (enc x)=false/\
 sub (enc x) 0 5=enc x/\
 (∀y,upd (enc x) 0 (enc y)=enc y)/\
 sub (enc x) 0 1=[A.int .i64 x.k]/\
 sub (enc x) 1 3=aO.enc x.bV/\
 sub (enc x) 4 1=[A.sl (x.bU.map aP.enc)]/\
 (∀v,upd (enc x) 1 (aO.enc v)=enc {x with bV:=v})/\
 (∀v,upd (enc x) 4 ([A.sl (v.map aP.enc)])=enc {x with bU:=v})/\
 (∀(c0 c1 c2 c3 c4:A) (cs:List A),upd (c0::c1::c2::c3::c4::cs) 0 (enc x)=A.int .i64 x.k::A.str x.bV.name::A.int .i64 x.bV.aY.mode::A.int .i64 x.bV.aY.bJ::A.sl (x.bU.map aP.enc)::cs)/\
 (∀(c0 c1 c2 c3 c4:A),upd (enc x) 0 [c0,c1,c2,c3,c4]=[c0,c1,c2,c3,c4])/\
 (∀y lo k,upd (enc x) 4 [.own y lo k]=[A.int .i64 x.k,A.str x.bV.name,A.int .i64 x.bV.aY.mode,A.int .i64 x.bV.aY.bJ,.own y lo k]):=by simp[sub,upd,zk0,A.pure1,zs0,A.scal1,zo2,LK.fits,dH,enc,aJ.enc,aO.enc]
end aP
@[ext] structure bL where
 bQ:aP
 (bT limit:Int)
namespace bL
def zero:bL:=⟨aP.zero,0,0⟩
def enc(x:bL):List A:=aP.enc x.bQ++[A.int .i64 x.bT,A.int .i64 x.limit]
@[simp] theorem zero_:zero.bQ.k=0/\zero.bQ.bV.name=⟨#[]⟩/\zero.bQ.bV.aY.mode=0/\zero.bQ.bV.aY.bJ=0/\zero.bQ.bU=[]/\zero.bT=0/\zero.limit=0:=by and_intros<;>rfl
@[go_sem] theorem len(x:bL):(enc x).length=7:=by simp[enc,aP.len]
instance:En bL:=⟨7,enc,zero⟩
@[go_sem] theorem laws(x:bL):
 zk0 (enc x)=true/\
 zs0 (enc x)=false/\
 sub (enc x) 0 7=enc x/\
 (∀y,upd (enc x) 0 (enc y)=enc y)/\
 sub (enc x) 0 5=aP.enc x.bQ/\
 sub (enc x) 0 1=[A.int .i64 x.bQ.k]/\
 sub (enc x) 1 3=aO.enc x.bQ.bV/\
 sub (enc x) 4 1=[A.sl (x.bQ.bU.map aP.enc)]/\
 sub (enc x) 5 1=[A.int .i64 x.bT]/\
 sub (enc x) 6 1=[A.int .i64 x.limit]/\
 (∀v,upd (enc x) 0 (aP.enc v)=enc {x with bQ:=v})/\
 (∀(c0 c1 c2 c3 c4 c5 c6:A) (cs:List A),upd (c0::c1::c2::c3::c4::c5::c6::cs) 0 (enc x)=A.int .i64 x.bQ.k::A.str x.bQ.bV.name::A.int .i64 x.bQ.bV.aY.mode::A.int .i64 x.bQ.bV.aY.bJ::A.sl (x.bQ.bU.map aP.enc)::A.int .i64 x.bT::A.int .i64 x.limit::cs)/\
 (∀(c0 c1 c2 c3 c4 c5 c6:A),upd (enc x) 0 [c0,c1,c2,c3,c4,c5,c6]=[c0,c1,c2,c3,c4,c5,c6]):=by simp[sub,upd,zk0,A.pure1,zs0,A.scal1,zo2,LK.fits,dH,enc,aJ.enc,aO.enc,aP.enc]
end bL
@[ext] structure aH where
 aZ:aF
 cost:Int
 bH:bG
 bW:Bool
 aR:bL
 (since gen:Int)
namespace aH
def zero:aH:=⟨aF.zero,0,bG.zero,false,bL.zero,0,0⟩
def enc(x:aH):List A:=aF.enc x.aZ++[A.int .i64 x.cost]++bG.enc x.bH++[A.bool x.bW]++bL.enc x.aR++[A.int .i64 x.since,A.int .i64 x.gen]
@[simp] theorem enc_mk(aZ:aF)(cost:Int)(bH:bG)(bW:Bool)(aR:bL)(since gen:Int):enc ⟨aZ,cost,bH,bW,aR,since,gen⟩=[A.int .i64 aZ.site,A.int .i64 aZ.inc,A.int .i64 aZ.num,A.int .i64 cost,A.sl (bH.bB.map bX.enc),A.sl (bH.cB.map bY.enc),A.bool bW,A.int .i64 aR.bQ.k,A.str aR.bQ.bV.name,A.int .i64 aR.bQ.bV.aY.mode,A.int .i64 aR.bQ.bV.aY.bJ,A.sl (aR.bQ.bU.map aP.enc),A.int .i64 aR.bT,A.int .i64 aR.limit,A.int .i64 since,A.int .i64 gen]:=by simp[enc,aJ.enc,aO.enc,aP.enc,bG.enc,aF.enc,bL.enc]
@[go_sem] theorem len(x:aH):(enc x).length=16:=by simp[enc,bG.len,aF.len,bL.len]
instance:En aH:=⟨16,enc,zero⟩
@[go_sem] theorem laws(x:aH):
 zk0 (enc x)=true/\
 zs0 (enc x)=false/\
 sub (enc x) 0 16=enc x/\
 (∀y,upd (enc x) 0 (enc y)=enc y)/\
 sub (enc x) 0 3=aF.enc x.aZ/\
 sub (enc x) 3 1=[A.int .i64 x.cost]/\
 sub (enc x) 4 2=bG.enc x.bH/\
 sub (enc x) 4 1=[A.sl (x.bH.bB.map bX.enc)]/\
 sub (enc x) 5 1=[A.sl (x.bH.cB.map bY.enc)]/\
 sub (enc x) 6 1=[A.bool x.bW]/\
 sub (enc x) 7 7=bL.enc x.aR/\
 sub (enc x) 7 5=aP.enc x.aR.bQ/\
 sub (enc x) 12 1=[A.int .i64 x.aR.bT]/\
 sub (enc x) 14 1=[A.int .i64 x.since]/\
 sub (enc x) 15 1=[A.int .i64 x.gen]/\
 (∀v,upd (enc x) 0 (aF.enc v)=enc {x with aZ:=v})/\
 (∀v,upd (enc x) 3 ([A.int .i64 v])=enc {x with cost:=v})/\
 (∀v,upd (enc x) 4 (bG.enc v)=enc {x with bH:=v})/\
 (∀v,upd (enc x) 4 ([A.sl (v.map bX.enc)])=enc {x with bH:={x.bH with bB:=v}})/\
 (∀v,upd (enc x) 5 ([A.sl (v.map bY.enc)])=enc {x with bH:={x.bH with cB:=v}})/\
 (∀v,upd (enc x) 6 ([A.bool v])=enc {x with bW:=v})/\
 (∀v,upd (enc x) 7 (bL.enc v)=enc {x with aR:=v})/\
 (∀v,upd (enc x) 7 (aP.enc v)=enc {x with aR:={x.aR with bQ:=v}})/\
 (∀v,upd (enc x) 14 ([A.int .i64 v])=enc {x with since:=v})/\
 (∀v,upd (enc x) 15 ([A.int .i64 v])=enc {x with gen:=v})/\
 (∀(c0 c1 c2 c3 c4 c5 c6 c7 c8 c9 c10 c11 c12 c13 c14 c15:A),upd (enc x) 0 [c0,c1,c2,c3,c4,c5,c6,c7,c8,c9,c10,c11,c12,c13,c14,c15]=[c0,c1,c2,c3,c4,c5,c6,c7,c8,c9,c10,c11,c12,c13,c14,c15])/\
 (∀y lo k,upd (enc x) 4 [.own y lo k]=[A.int .i64 x.aZ.site,A.int .i64 x.aZ.inc,A.int .i64 x.aZ.num,A.int .i64 x.cost,.own y lo k,A.sl (x.bH.cB.map bY.enc),A.bool x.bW,A.int .i64 x.aR.bQ.k,A.str x.aR.bQ.bV.name,A.int .i64 x.aR.bQ.bV.aY.mode,A.int .i64 x.aR.bQ.bV.aY.bJ,A.sl (x.aR.bQ.bU.map aP.enc),A.int .i64 x.aR.bT,A.int .i64 x.aR.limit,A.int .i64 x.since,A.int .i64 x.gen])/\
 (∀y lo k,upd (enc x) 5 [.own y lo k]=[A.int .i64 x.aZ.site,A.int .i64 x.aZ.inc,A.int .i64 x.aZ.num,A.int .i64 x.cost,A.sl (x.bH.bB.map bX.enc),.own y lo k,A.bool x.bW,A.int .i64 x.aR.bQ.k,A.str x.aR.bQ.bV.name,A.int .i64 x.aR.bQ.bV.aY.mode,A.int .i64 x.aR.bQ.bV.aY.bJ,A.sl (x.aR.bQ.bU.map aP.enc),A.int .i64 x.aR.bT,A.int .i64 x.aR.limit,A.int .i64 x.since,A.int .i64 x.gen]):=by simp[sub,upd,zk0,A.pure1,zs0,A.scal1,zo2,LK.fits,dH,enc,aJ.enc,aO.enc,aP.enc,bG.enc,aF.enc,bL.enc]
end aH
@[ext] structure aM where
 now:Int
 aB:(List aC)
 bA:(List aH)
namespace aM
def zero:aM:=⟨0,[],[]⟩
def enc(x:aM):List A:=[A.int .i64 x.now,A.sl (x.aB.map aC.enc),A.sl (x.bA.map aH.enc)]
@[go_sem] theorem len(x:aM):(enc x).length=3:=by simp[enc]
instance:En aM:=⟨3,enc,zero⟩
@[go_sem] theorem laws(x:aM):
 zk0 (enc x)=true/\
 zs0 (enc x)=false/\
 sub (enc x) 0 3=enc x/\
 (∀y,upd (enc x) 0 (enc y)=enc y)/\
 sub (enc x) 0 1=[A.int .i64 x.now]/\
 sub (enc x) 1 1=[A.sl (x.aB.map aC.enc)]/\
 sub (enc x) 2 1=[A.sl (x.bA.map aH.enc)]/\
 (∀v,upd (enc x) 0 ([A.int .i64 v])=enc {x with now:=v})/\
 (∀v,upd (enc x) 1 ([A.sl (v.map aC.enc)])=enc {x with aB:=v})/\
 (∀v,upd (enc x) 2 ([A.sl (v.map aH.enc)])=enc {x with bA:=v})/\
 (∀(c0 c1 c2:A) (cs:List A),upd (c0::c1::c2::cs) 0 (enc x)=A.int .i64 x.now::A.sl (x.aB.map aC.enc)::A.sl (x.bA.map aH.enc)::cs)/\
 (∀(c0 c1 c2:A),upd (enc x) 0 [c0,c1,c2]=[c0,c1,c2])/\
 (∀y lo k,upd (enc x) 1 [.own y lo k]=[A.int .i64 x.now,.own y lo k,A.sl (x.bA.map aH.enc)])/\
 (∀y lo k,upd (enc x) 2 [.own y lo k]=[A.int .i64 x.now,A.sl (x.aB.map aC.enc),.own y lo k]):=by simp[sub,upd,zk0,A.pure1,zs0,A.scal1,zo2,LK.fits,dH,enc]
end aM
@[ext] structure aX where
 kind:Int
 aZ:aF
 aR:bL
 name:ByteArray
 n:Int
namespace aX
def zero:aX:=⟨0,aF.zero,bL.zero,⟨#[]⟩,0⟩
def enc(x:aX):List A:=[A.int .i64 x.kind]++aF.enc x.aZ++bL.enc x.aR++[A.str x.name,A.int .i64 x.n]
@[simp] theorem enc_mk(kind:Int)(aZ:aF)(aR:bL)(name:ByteArray)(n:Int):enc ⟨kind,aZ,aR,name,n⟩=[A.int .i64 kind,A.int .i64 aZ.site,A.int .i64 aZ.inc,A.int .i64 aZ.num,A.int .i64 aR.bQ.k,A.str aR.bQ.bV.name,A.int .i64 aR.bQ.bV.aY.mode,A.int .i64 aR.bQ.bV.aY.bJ,A.sl (aR.bQ.bU.map aP.enc),A.int .i64 aR.bT,A.int .i64 aR.limit,A.str name,A.int .i64 n]:=by simp[enc,aJ.enc,aO.enc,aP.enc,aF.enc,bL.enc]
@[simp] theorem zero_:zero.kind=0/\zero.aZ.site=0/\zero.aZ.inc=0/\zero.aZ.num=0/\zero.aR.bQ.k=0/\zero.aR.bQ.bV.name=⟨#[]⟩/\zero.aR.bQ.bV.aY.mode=0/\zero.aR.bQ.bV.aY.bJ=0/\zero.aR.bQ.bU=[]/\zero.aR.bT=0/\zero.aR.limit=0/\zero.name=⟨#[]⟩/\zero.n=0:=by and_intros<;>rfl
@[go_sem] theorem len(x:aX):(enc x).length=13:=by simp[enc,aF.len,bL.len]
instance:En aX:=⟨13,enc,zero⟩
@[go_sem] theorem laws(x:aX):
 zk0 (enc x)=true/\
 zs0 (enc x)=false/\
 sub (enc x) 0 13=enc x/\
 (∀y,upd (enc x) 0 (enc y)=enc y)/\
 sub (enc x) 0 1=[A.int .i64 x.kind]/\
 sub (enc x) 1 3=aF.enc x.aZ/\
 sub (enc x) 4 7=bL.enc x.aR/\
 sub (enc x) 11 1=[A.str x.name]/\
 sub (enc x) 12 1=[A.int .i64 x.n]/\
 (∀v,upd (enc x) 0 ([A.int .i64 v])=enc {x with kind:=v})/\
 (∀v,upd (enc x) 1 (aF.enc v)=enc {x with aZ:=v})/\
 (∀v,upd (enc x) 4 (bL.enc v)=enc {x with aR:=v})/\
 (∀v,upd (enc x) 12 ([A.int .i64 v])=enc {x with n:=v})/\
 (∀(c0 c1 c2 c3 c4 c5 c6 c7 c8 c9 c10 c11 c12:A),upd (enc x) 0 [c0,c1,c2,c3,c4,c5,c6,c7,c8,c9,c10,c11,c12]=[c0,c1,c2,c3,c4,c5,c6,c7,c8,c9,c10,c11,c12]):=by simp[sub,upd,zk0,A.pure1,zs0,A.scal1,zo2,LK.fits,dH,enc,aJ.enc,aO.enc,aP.enc,aF.enc,bL.enc]
end aX
@[ext] structure cA where
 options:(List Int)
 cost:Int
namespace cA
def zero:cA:=⟨[],0⟩
def enc(x:cA):List A:=[A.sl (x.options.map (eI .i64)),A.int .i64 x.cost]
@[go_sem] theorem len(x:cA):(enc x).length=2:=by simp[enc]
instance:En cA:=⟨2,enc,zero⟩
@[go_sem] theorem laws(x:cA):
 zk0 (enc x)=true/\
 zs0 (enc x)=false/\
 sub (enc x) 0 2=enc x/\
 (∀y,upd (enc x) 0 (enc y)=enc y)/\
 sub (enc x) 0 1=[A.sl (x.options.map (eI .i64))]/\
 sub (enc x) 1 1=[A.int .i64 x.cost]/\
 (∀v,upd (enc x) 0 ([A.sl (v.map (eI .i64))])=enc {x with options:=v})/\
 (∀v,upd (enc x) 1 ([A.int .i64 v])=enc {x with cost:=v})/\
 (∀(c0 c1:A) (cs:List A),upd (c0::c1::cs) 0 (enc x)=A.sl (x.options.map (eI .i64))::A.int .i64 x.cost::cs)/\
 (∀(c0 c1:A),upd (enc x) 0 [c0,c1]=[c0,c1])/\
 (∀y lo k,upd (enc x) 0 [.own y lo k]=[.own y lo k,A.int .i64 x.cost]):=by simp[sub,upd,zk0,A.pure1,zs0,A.scal1,zo2,LK.fits,dH,enc]
end cA
@[ext] structure bK where
 aZ:aF
 bQ:aP
 gen:Int
namespace bK
def zero:bK:=⟨aF.zero,aP.zero,0⟩
def enc(x:bK):List A:=aF.enc x.aZ++aP.enc x.bQ++[A.int .i64 x.gen]
@[simp] theorem enc_mk(aZ:aF)(bQ:aP)(gen:Int):enc ⟨aZ,bQ,gen⟩=[A.int .i64 aZ.site,A.int .i64 aZ.inc,A.int .i64 aZ.num,A.int .i64 bQ.k,A.str bQ.bV.name,A.int .i64 bQ.bV.aY.mode,A.int .i64 bQ.bV.aY.bJ,A.sl (bQ.bU.map aP.enc),A.int .i64 gen]:=by simp[enc,aJ.enc,aO.enc,aP.enc,aF.enc]
@[go_sem] theorem len(x:bK):(enc x).length=9:=by simp[enc,aP.len,aF.len]
instance:En bK:=⟨9,enc,zero⟩
@[go_sem] theorem laws(x:bK):
 zk0 (enc x)=true/\
 zs0 (enc x)=false/\
 sub (enc x) 0 9=enc x/\
 (∀y,upd (enc x) 0 (enc y)=enc y)/\
 sub (enc x) 0 3=aF.enc x.aZ/\
 sub (enc x) 3 5=aP.enc x.bQ/\
 sub (enc x) 8 1=[A.int .i64 x.gen]/\
 (∀v,upd (enc x) 0 (aF.enc v)=enc {x with aZ:=v})/\
 (∀v,upd (enc x) 3 (aP.enc v)=enc {x with bQ:=v})/\
 (∀v,upd (enc x) 8 ([A.int .i64 v])=enc {x with gen:=v})/\
 (∀(c0 c1 c2 c3 c4 c5 c6 c7 c8:A),upd (enc x) 0 [c0,c1,c2,c3,c4,c5,c6,c7,c8]=[c0,c1,c2,c3,c4,c5,c6,c7,c8]):=by simp[sub,upd,zk0,A.pure1,zs0,A.scal1,zo2,LK.fits,dH,enc,aJ.enc,aO.enc,aP.enc,aF.enc]
end bK
@[ext] structure aA where
 aB:(List aC)
 aK:(List bK)
namespace aA
def zero:aA:=⟨[],[]⟩
def enc(x:aA):List A:=[A.sl (x.aB.map aC.enc),A.sl (x.aK.map bK.enc)]
@[go_sem] theorem len(x:aA):(enc x).length=2:=by simp[enc]
instance:En aA:=⟨2,enc,zero⟩
@[go_sem] theorem laws(x:aA):
 zk0 (enc x)=true/\
 zs0 (enc x)=false/\
 sub (enc x) 0 2=enc x/\
 (∀y,upd (enc x) 0 (enc y)=enc y)/\
 sub (enc x) 0 1=[A.sl (x.aB.map aC.enc)]/\
 sub (enc x) 1 1=[A.sl (x.aK.map bK.enc)]/\
 (∀v,upd (enc x) 0 ([A.sl (v.map aC.enc)])=enc {x with aB:=v})/\
 (∀v,upd (enc x) 1 ([A.sl (v.map bK.enc)])=enc {x with aK:=v})/\
 (∀(c0 c1:A) (cs:List A),upd (c0::c1::cs) 0 (enc x)=A.sl (x.aB.map aC.enc)::A.sl (x.aK.map bK.enc)::cs)/\
 (∀(c0 c1:A),upd (enc x) 0 [c0,c1]=[c0,c1])/\
 (∀y lo k,upd (enc x) 0 [.own y lo k]=[.own y lo k,A.sl (x.aK.map bK.enc)])/\
 (∀y lo k,upd (enc x) 1 [.own y lo k]=[A.sl (x.aB.map aC.enc),.own y lo k]):=by simp[sub,upd,zk0,A.pure1,zs0,A.scal1,zo2,LK.fits,dH,enc]
end aA
@[ext] structure Tag where
 aZ:aF
 name:ByteArray
 gen:Int
 deriving DecidableEq
namespace Tag
def zero:Tag:=⟨aF.zero,⟨#[]⟩,0⟩
def enc(x:Tag):List A:=aF.enc x.aZ++[A.str x.name,A.int .i64 x.gen]
instance:En Tag:=⟨5,enc,zero⟩
end Tag
@[ext] structure bP where
 aB:(List aC)
 tags:(List Tag)
namespace bP
def zero:bP:=⟨[],[]⟩
def enc(x:bP):List A:=[A.sl (x.aB.map aC.enc),A.sl (x.tags.map Tag.enc)]
@[go_sem] theorem len(x:bP):(enc x).length=2:=by simp[enc]
instance:En bP:=⟨2,enc,zero⟩
@[go_sem] theorem laws(x:bP):
 zk0 (enc x)=true/\
 zs0 (enc x)=false/\
 sub (enc x) 0 2=enc x/\
 (∀y,upd (enc x) 0 (enc y)=enc y)/\
 sub (enc x) 0 1=[A.sl (x.aB.map aC.enc)]/\
 (∀v,upd (enc x) 0 ([A.sl (v.map aC.enc)])=enc {x with aB:=v})/\
 (∀(c0 c1:A) (cs:List A),upd (c0::c1::cs) 0 (enc x)=A.sl (x.aB.map aC.enc)::A.sl (x.tags.map Tag.enc)::cs)/\
 (∀(c0 c1:A),upd (enc x) 0 [c0,c1]=[c0,c1])/\
 (∀y lo k,upd (enc x) 0 [.own y lo k]=[.own y lo k,A.sl (x.tags.map Tag.enc)]):=by simp[sub,upd,zk0,A.pure1,zs0,A.scal1,zo2,LK.fits,dH,enc]
end bP
@[ext] structure cD where
 first:Int
 out:(List (List Int))
 got:Int
namespace cD
def zero:cD:=⟨0,[],0⟩
def enc(x:cD):List A:=[A.int .i64 x.first,A.sl (x.out.map (eL (eI .u8))),A.int .i64 x.got]
@[go_sem] theorem len(x:cD):(enc x).length=3:=by simp[enc]
instance:En cD:=⟨3,enc,zero⟩
@[go_sem] theorem laws(x:cD):
 zk0 (enc x)=true/\
 zs0 (enc x)=false/\
 sub (enc x) 0 3=enc x/\
 (∀y,upd (enc x) 0 (enc y)=enc y)/\
 (∀v,upd (enc x) 0 ([A.int .i64 v])=enc {x with first:=v})/\
 (∀(c0 c1 c2:A) (cs:List A),upd (c0::c1::c2::cs) 0 (enc x)=A.int .i64 x.first::A.sl (x.out.map (eL (eI .u8)))::A.int .i64 x.got::cs)/\
 (∀(c0 c1 c2:A),upd (enc x) 0 [c0,c1,c2]=[c0,c1,c2]):=by simp[sub,upd,zk0,A.pure1,zs0,A.scal1,zo2,LK.fits,dH,enc]
end cD
@[ext] structure aS where
 inc:Int
 home:bP
 links:(List cD)
 (epoch round:Int)
namespace aS
def zero:aS:=⟨0,bP.zero,[],0,0⟩
def enc(x:aS):List A:=[A.int .i64 x.inc]++bP.enc x.home++[A.sl (x.links.map cD.enc),A.int .i64 x.epoch,A.int .i64 x.round]
@[go_sem] theorem len(x:aS):(enc x).length=6:=by simp[enc,bP.len]
instance:En aS:=⟨6,enc,zero⟩
end aS
@[ext] structure Job where
 process:aH
 granted:(List Bool)
 pending:Int
namespace Job
def zero:Job:=⟨aH.zero,[],0⟩
def enc(x:Job):List A:=aH.enc x.process++[A.sl (x.granted.map eB),A.int .i64 x.pending]
@[go_sem] theorem len(x:Job):(enc x).length=18:=by simp[enc,aH.len]
instance:En Job:=⟨18,enc,zero⟩
@[go_sem] theorem laws(x:Job):
 zk0 (enc x)=true/\
 zs0 (enc x)=false/\
 sub (enc x) 0 18=enc x/\
 (∀y,upd (enc x) 0 (enc y)=enc y)/\
 sub (enc x) 0 16=aH.enc x.process/\
 sub (enc x) 0 3=aF.enc x.process.aZ/\
 sub (enc x) 17 1=[A.int .i64 x.pending]/\
 (∀(c0 c1 c2 c3 c4 c5 c6 c7 c8 c9 c10 c11 c12 c13 c14 c15 c16 c17:A),upd (enc x) 0 [c0,c1,c2,c3,c4,c5,c6,c7,c8,c9,c10,c11,c12,c13,c14,c15,c16,c17]=[c0,c1,c2,c3,c4,c5,c6,c7,c8,c9,c10,c11,c12,c13,c14,c15,c16,c17]):=by simp[sub,upd,zk0,A.pure1,zs0,A.scal1,zo2,LK.fits,dH,enc,aJ.enc,aO.enc,aP.enc,bG.enc,aF.enc,aH.enc,bL.enc]
end Job
@[ext] structure bC where
 (site inc now last:Int)
 jobs:(List Job)
namespace bC
def zero:bC:=⟨0,0,0,0,[]⟩
def enc(x:bC):List A:=[A.int .i64 x.site,A.int .i64 x.inc,A.int .i64 x.now,A.int .i64 x.last,A.sl (x.jobs.map Job.enc)]
@[go_sem] theorem len(x:bC):(enc x).length=5:=by simp[enc]
instance:En bC:=⟨5,enc,zero⟩
@[go_sem] theorem laws(x:bC):
 zk0 (enc x)=true/\
 zs0 (enc x)=false/\
 sub (enc x) 0 5=enc x/\
 (∀y,upd (enc x) 0 (enc y)=enc y)/\
 sub (enc x) 0 1=[A.int .i64 x.site]/\
 sub (enc x) 1 1=[A.int .i64 x.inc]/\
 sub (enc x) 2 1=[A.int .i64 x.now]/\
 sub (enc x) 3 1=[A.int .i64 x.last]/\
 sub (enc x) 4 1=[A.sl (x.jobs.map Job.enc)]/\
 (∀v,upd (enc x) 0 ([A.int .i64 v])=enc {x with site:=v})/\
 (∀v,upd (enc x) 1 ([A.int .i64 v])=enc {x with inc:=v})/\
 (∀(c0 c1 c2 c3 c4:A) (cs:List A),upd (c0::c1::c2::c3::c4::cs) 0 (enc x)=A.int .i64 x.site::A.int .i64 x.inc::A.int .i64 x.now::A.int .i64 x.last::A.sl (x.jobs.map Job.enc)::cs)/\
 (∀(c0 c1 c2 c3 c4:A),upd (enc x) 0 [c0,c1,c2,c3,c4]=[c0,c1,c2,c3,c4]):=by simp[sub,upd,zk0,A.pure1,zs0,A.scal1,zo2,LK.fits,dH,enc]
end bC
@[ext] structure aL where
 (has want using_:Bool)
 (last next:Int)
 deriving DecidableEq
namespace aL
def zero:aL:=⟨false,false,false,0,0⟩
def enc(x:aL):List A:=[A.bool x.has,A.bool x.want,A.bool x.using_,A.int .i64 x.last,A.int .i64 x.next]
@[go_sem] theorem len(x:aL):(enc x).length=5:=by simp[enc]
instance:En aL:=⟨5,enc,zero⟩
@[go_sem] theorem laws(x:aL):
 zk0 (enc x)=true/\
 zs0 (enc x)=true/\
 zo2 [.b,.b,.b,.i .i64,.i .i64] (enc x)=true/\
 sub (enc x) 0 5=enc x/\
 (∀y,upd (enc x) 0 (enc y)=enc y)/\
 (∀v,upd (enc x) 0 ([A.bool v])=enc {x with has:=v})/\
 (∀v,upd (enc x) 3 ([A.int .i64 v])=enc {x with last:=v})/\
 (∀v,upd (enc x) 4 ([A.int .i64 v])=enc {x with next:=v})/\
 (∀(c0 c1 c2 c3 c4:A) (cs:List A),upd (c0::c1::c2::c3::c4::cs) 0 (enc x)=A.bool x.has::A.bool x.want::A.bool x.using_::A.int .i64 x.last::A.int .i64 x.next::cs)/\
 (∀(c0 c1 c2 c3 c4:A),upd (enc x) 0 [c0,c1,c2,c3,c4]=[c0,c1,c2,c3,c4]):=by simp[sub,upd,zk0,A.pure1,zs0,A.scal1,zo2,LK.fits,dH,enc]
end aL
@[ext] structure bD where
 epoch:Int
 (lost asking:Bool)
 promised:(List Bool)
 token:aL
namespace bD
def zero:bD:=⟨0,false,false,[],aL.zero⟩
def enc(x:bD):List A:=[A.int .i64 x.epoch,A.bool x.lost,A.bool x.asking,A.sl (x.promised.map eB)]++aL.enc x.token
@[go_sem] theorem len(x:bD):(enc x).length=9:=by simp[enc,aL.len]
instance:En bD:=⟨9,enc,zero⟩
@[go_sem] theorem laws(x:bD):
 zk0 (enc x)=true/\
 zs0 (enc x)=false/\
 sub (enc x) 0 9=enc x/\
 (∀y,upd (enc x) 0 (enc y)=enc y)/\
 (∀v,upd (enc x) 4 (aL.enc v)=enc {x with token:=v})/\
 (∀(c0 c1 c2 c3 c4 c5 c6 c7 c8:A),upd (enc x) 0 [c0,c1,c2,c3,c4,c5,c6,c7,c8]=[c0,c1,c2,c3,c4,c5,c6,c7,c8]):=by simp[sub,upd,zk0,A.pure1,zs0,A.scal1,zo2,LK.fits,dH,enc,aL.enc]
end bD
@[ext] structure aI where
 aZ:aF
 (label cost:Int)
 lower:(List aO)
namespace aI
def zero:aI:=⟨aF.zero,0,0,[]⟩
def enc(x:aI):List A:=aF.enc x.aZ++[A.int .i64 x.label,A.int .i64 x.cost,A.sl (x.lower.map aO.enc)]
@[go_sem] theorem len(x:aI):(enc x).length=6:=by simp[enc,aF.len]
instance:En aI:=⟨6,enc,zero⟩
@[go_sem] theorem laws(x:aI):
 zk0 (enc x)=true/\
 zs0 (enc x)=false/\
 sub (enc x) 0 6=enc x/\
 (∀y,upd (enc x) 0 (enc y)=enc y)/\
 sub (enc x) 0 3=aF.enc x.aZ/\
 sub (enc x) 3 1=[A.int .i64 x.label]/\
 sub (enc x) 4 1=[A.int .i64 x.cost]/\
 sub (enc x) 5 1=[A.sl (x.lower.map aO.enc)]/\
 (∀v,upd (enc x) 0 (aF.enc v)=enc {x with aZ:=v})/\
 (∀v,upd (enc x) 3 ([A.int .i64 v])=enc {x with label:=v})/\
 (∀v,upd (enc x) 4 ([A.int .i64 v])=enc {x with cost:=v})/\
 (∀v,upd (enc x) 5 ([A.sl (v.map aO.enc)])=enc {x with lower:=v})/\
 (∀(c0 c1 c2 c3 c4 c5:A) (cs:List A),upd (c0::c1::c2::c3::c4::c5::cs) 0 (enc x)=A.int .i64 x.aZ.site::A.int .i64 x.aZ.inc::A.int .i64 x.aZ.num::A.int .i64 x.label::A.int .i64 x.cost::A.sl (x.lower.map aO.enc)::cs)/\
 (∀(c0 c1 c2 c3 c4 c5:A),upd (enc x) 0 [c0,c1,c2,c3,c4,c5]=[c0,c1,c2,c3,c4,c5])/\
 (∀y lo k,upd (enc x) 5 [.own y lo k]=[A.int .i64 x.aZ.site,A.int .i64 x.aZ.inc,A.int .i64 x.aZ.num,A.int .i64 x.label,A.int .i64 x.cost,.own y lo k]):=by simp[sub,upd,zk0,A.pure1,zs0,A.scal1,zo2,LK.fits,dH,enc,aF.enc]
end aI
@[ext] structure cE where
 aZ:aF
 name:ByteArray
 why:Int
 members:(List aF)
namespace cE
def zero:cE:=⟨aF.zero,⟨#[]⟩,0,[]⟩
def enc(x:cE):List A:=aF.enc x.aZ++[A.str x.name,A.int .i64 x.why,A.sl (x.members.map aF.enc)]
instance:En cE:=⟨6,enc,zero⟩
end cE
@[ext] structure aU where
 state:aA
 members:(List aF)
 causes:(List cE)
namespace aU
def zero:aU:=⟨aA.zero,[],[]⟩
def enc(x:aU):List A:=aA.enc x.state++[A.sl (x.members.map aF.enc),A.sl (x.causes.map cE.enc)]
@[go_sem] theorem len(x:aU):(enc x).length=4:=by simp[enc,aA.len]
instance:En aU:=⟨4,enc,zero⟩
end aU
@[ext] structure aT where
 (phase round:Int)
 got:(List Bool)
 state:aA
 options:(List aI)
 again:(List bK)
 witness:aU
 left:(List aF)
namespace aT
def zero:aT:=⟨0,0,[],aA.zero,[],[],aU.zero,[]⟩
def enc(x:aT):List A:=[A.int .i64 x.phase,A.int .i64 x.round,A.sl (x.got.map eB)]++aA.enc x.state++[A.sl (x.options.map aI.enc),A.sl (x.again.map bK.enc)]++aU.enc x.witness++[A.sl (x.left.map aF.enc)]
@[go_sem] theorem len(x:aT):(enc x).length=12:=by simp[enc,aA.len,aU.len]
instance:En aT:=⟨12,enc,zero⟩
end aT
@[ext] structure aN where
 regen:bD
 collect:aT
 (round waited:Int)
namespace aN
def zero:aN:=⟨bD.zero,aT.zero,0,0⟩
def enc(x:aN):List A:=bD.enc x.regen++aT.enc x.collect++[A.int .i64 x.round,A.int .i64 x.waited]
@[go_sem] theorem len(x:aN):(enc x).length=23:=by simp[enc,aT.len,bD.len]
instance:En aN:=⟨23,enc,zero⟩
@[go_sem] theorem laws(x:aN):
 zk0 (enc x)=true/\
 zs0 (enc x)=false/\
 sub (enc x) 0 23=enc x/\
 (∀y,upd (enc x) 0 (enc y)=enc y)/\
 (∀v,upd (enc x) 0 (bD.enc v)=enc {x with regen:=v})/\
 (∀(c0 c1 c2 c3 c4 c5 c6 c7 c8 c9 c10 c11 c12 c13 c14 c15 c16 c17 c18 c19 c20 c21 c22:A),upd (enc x) 0 [c0,c1,c2,c3,c4,c5,c6,c7,c8,c9,c10,c11,c12,c13,c14,c15,c16,c17,c18,c19,c20,c21,c22]=[c0,c1,c2,c3,c4,c5,c6,c7,c8,c9,c10,c11,c12,c13,c14,c15,c16,c17,c18,c19,c20,c21,c22]):=by simp[sub,upd,zk0,A.pure1,zs0,A.scal1,zo2,LK.fits,dH,enc,aT.enc,bD.enc,aL.enc,aA.enc,aU.enc]
end aN
@[ext] structure bE where
 (iD sites:Int)
 up:Bool
 durable:aS
 owner:bC
 detector:aN
namespace bE
def zero:bE:=⟨0,0,false,aS.zero,bC.zero,aN.zero⟩
def enc(x:bE):List A:=[A.int .i64 x.iD,A.int .i64 x.sites,A.bool x.up]++aS.enc x.durable++bC.enc x.owner++aN.enc x.detector
@[go_sem] theorem len(x:bE):(enc x).length=37:=by simp[enc,aN.len,aS.len,bC.len]
instance:En bE:=⟨37,enc,zero⟩
@[go_sem] theorem laws(x:bE):
 zk0 (enc x)=true/\
 zs0 (enc x)=false/\
 sub (enc x) 0 37=enc x/\
 (∀y,upd (enc x) 0 (enc y)=enc y)/\
 sub (enc x) 2 1=[A.bool x.up]/\
 sub (enc x) 3 1=[A.int .i64 x.durable.inc]/\
 sub (enc x) 4 2=bP.enc x.durable.home/\
 sub (enc x) 4 1=[A.sl (x.durable.home.aB.map aC.enc)]/\
 sub (enc x) 6 1=[A.sl (x.durable.links.map cD.enc)]/\
 sub (enc x) 9 5=bC.enc x.owner/\
 sub (enc x) 13 1=[A.sl (x.owner.jobs.map Job.enc)]/\
 sub (enc x) 14 23=aN.enc x.detector/\
 (∀v,upd (enc x) 0 ([A.int .i64 v])=enc {x with iD:=v})/\
 (∀v,upd (enc x) 1 ([A.int .i64 v])=enc {x with sites:=v})/\
 (∀v,upd (enc x) 2 ([A.bool v])=enc {x with up:=v})/\
 (∀v,upd (enc x) 3 ([A.int .i64 v])=enc {x with durable:={x.durable with inc:=v}})/\
 (∀v,upd (enc x) 4 (bP.enc v)=enc {x with durable:={x.durable with home:=v}})/\
 (∀v,upd (enc x) 6 ([A.sl (v.map cD.enc)])=enc {x with durable:={x.durable with links:=v}})/\
 (∀v,upd (enc x) 9 (bC.enc v)=enc {x with owner:=v})/\
 (∀v,upd (enc x) 14 (aN.enc v)=enc {x with detector:=v})/\
 (∀(c0 c1 c2 c3 c4 c5 c6 c7 c8 c9 c10 c11 c12 c13 c14 c15 c16 c17 c18 c19 c20 c21 c22 c23 c24 c25 c26 c27 c28 c29 c30 c31 c32 c33 c34 c35 c36:A),upd (enc x) 0 [c0,c1,c2,c3,c4,c5,c6,c7,c8,c9,c10,c11,c12,c13,c14,c15,c16,c17,c18,c19,c20,c21,c22,c23,c24,c25,c26,c27,c28,c29,c30,c31,c32,c33,c34,c35,c36]=[c0,c1,c2,c3,c4,c5,c6,c7,c8,c9,c10,c11,c12,c13,c14,c15,c16,c17,c18,c19,c20,c21,c22,c23,c24,c25,c26,c27,c28,c29,c30,c31,c32,c33,c34,c35,c36])/\
 (∀y lo k,upd (enc x) 6 [.own y lo k]=[A.int .i64 x.iD,A.int .i64 x.sites,A.bool x.up,A.int .i64 x.durable.inc,A.sl (x.durable.home.aB.map aC.enc),A.sl (x.durable.home.tags.map Tag.enc),.own y lo k,A.int .i64 x.durable.epoch,A.int .i64 x.durable.round,A.int .i64 x.owner.site,A.int .i64 x.owner.inc,A.int .i64 x.owner.now,A.int .i64 x.owner.last,A.sl (x.owner.jobs.map Job.enc),A.int .i64 x.detector.regen.epoch,A.bool x.detector.regen.lost,A.bool x.detector.regen.asking,A.sl (x.detector.regen.promised.map eB),A.bool x.detector.regen.token.has,A.bool x.detector.regen.token.want,A.bool x.detector.regen.token.using_,A.int .i64 x.detector.regen.token.last,A.int .i64 x.detector.regen.token.next,A.int .i64 x.detector.collect.phase,A.int .i64 x.detector.collect.round,A.sl (x.detector.collect.got.map eB),A.sl (x.detector.collect.state.aB.map aC.enc),A.sl (x.detector.collect.state.aK.map bK.enc),A.sl (x.detector.collect.options.map aI.enc),A.sl (x.detector.collect.again.map bK.enc),A.sl (x.detector.collect.witness.state.aB.map aC.enc),A.sl (x.detector.collect.witness.state.aK.map bK.enc),A.sl (x.detector.collect.witness.members.map aF.enc),A.sl (x.detector.collect.witness.causes.map cE.enc),A.sl (x.detector.collect.left.map aF.enc),A.int .i64 x.detector.round,A.int .i64 x.detector.waited]):=by simp[sub,upd,zk0,A.pure1,zs0,A.scal1,zo2,LK.fits,dH,enc,aT.enc,aN.enc,aS.enc,bP.enc,bC.enc,bD.enc,aL.enc,aA.enc,aU.enc]
end bE
@[ext] structure bN where
 catalog:(List aG)
 sites:(List bE)
 channels:(List (List (List Int)))
namespace bN
def zero:bN:=⟨[],[],[]⟩
def enc(x:bN):List A:=[A.sl (x.catalog.map aG.enc),A.sl (x.sites.map bE.enc),A.sl (x.channels.map (eL (eL (eI .u8))))]
@[go_sem] theorem len(x:bN):(enc x).length=3:=by simp[enc]
instance:En bN:=⟨3,enc,zero⟩
@[go_sem] theorem laws(x:bN):
 zk0 (enc x)=true/\
 zs0 (enc x)=false/\
 sub (enc x) 0 3=enc x/\
 (∀y,upd (enc x) 0 (enc y)=enc y)/\
 sub (enc x) 0 1=[A.sl (x.catalog.map aG.enc)]/\
 sub (enc x) 1 1=[A.sl (x.sites.map bE.enc)]/\
 (∀v,upd (enc x) 0 ([A.sl (v.map aG.enc)])=enc {x with catalog:=v})/\
 (∀v,upd (enc x) 1 ([A.sl (v.map bE.enc)])=enc {x with sites:=v})/\
 (∀v,upd (enc x) 2 ([A.sl (v.map (eL (eL (eI .u8))))])=enc {x with channels:=v})/\
 (∀(c0 c1 c2:A) (cs:List A),upd (c0::c1::c2::cs) 0 (enc x)=A.sl (x.catalog.map aG.enc)::A.sl (x.sites.map bE.enc)::A.sl (x.channels.map (eL (eL (eI .u8))))::cs)/\
 (∀(c0 c1 c2:A),upd (enc x) 0 [c0,c1,c2]=[c0,c1,c2])/\
 (∀y lo k,upd (enc x) 0 [.own y lo k]=[.own y lo k,A.sl (x.sites.map bE.enc),A.sl (x.channels.map (eL (eL (eI .u8))))])/\
 (∀y lo k,upd (enc x) 1 [.own y lo k]=[A.sl (x.catalog.map aG.enc),.own y lo k,A.sl (x.channels.map (eL (eL (eI .u8))))])/\
 (∀y lo k,upd (enc x) 2 [.own y lo k]=[A.sl (x.catalog.map aG.enc),A.sl (x.sites.map bE.enc),.own y lo k]):=by simp[sub,upd,zk0,A.pure1,zs0,A.scal1,zo2,LK.fits,dH,enc]
end bN
@[ext] structure aD where
 (cost set:Int)
 deriving DecidableEq
namespace aD
def zero:aD:=⟨0,0⟩
def enc(x:aD):List A:=[A.int .i64 x.cost,A.int .u64 x.set]
@[go_sem] theorem len(x:aD):(enc x).length=2:=by simp[enc]
instance:En aD:=⟨2,enc,zero⟩
@[go_sem] theorem laws(x:aD):
 zk0 (enc x)=true/\
 zs0 (enc x)=true/\
 zo2 [.i .i64,.i .u64] (enc x)=true/\
 sub (enc x) 0 2=enc x/\
 (∀y,upd (enc x) 0 (enc y)=enc y)/\
 sub (enc x) 0 1=[A.int .i64 x.cost]/\
 sub (enc x) 1 1=[A.int .u64 x.set]/\
 (∀v,upd (enc x) 0 ([A.int .i64 v])=enc {x with cost:=v})/\
 (∀v,upd (enc x) 1 ([A.int .u64 v])=enc {x with set:=v})/\
 (∀(c0 c1:A) (cs:List A),upd (c0::c1::cs) 0 (enc x)=A.int .i64 x.cost::A.int .u64 x.set::cs)/\
 (∀(c0 c1:A),upd (enc x) 0 [c0,c1]=[c0,c1]):=by simp[sub,upd,zk0,A.pure1,zs0,A.scal1,zo2,LK.fits,dH,enc]
end aD
@[ext] structure bI where
 kind:Int
 aZ:aF
 name:ByteArray
 aY:aJ
 deriving DecidableEq
namespace bI
def zero:bI:=⟨0,aF.zero,⟨#[]⟩,aJ.zero⟩
def enc(x:bI):List A:=[A.int .i64 x.kind]++aF.enc x.aZ++[A.str x.name]++aJ.enc x.aY
@[go_sem] theorem len(x:bI):(enc x).length=7:=by simp[enc,aJ.len,aF.len]
instance:En bI:=⟨7,enc,zero⟩
@[go_sem] theorem laws(x:bI):
 zk0 (enc x)=true/\
 zs0 (enc x)=true/\
 zo2 [.i .i64,.i .i64,.i .i64,.i .i64,.s,.i .i64,.i .i64] (enc x)=true/\
 sub (enc x) 0 7=enc x/\
 (∀y,upd (enc x) 0 (enc y)=enc y)/\
 (∀v,upd (enc x) 0 ([A.int .i64 v])=enc {x with kind:=v})/\
 (∀v,upd (enc x) 1 (aF.enc v)=enc {x with aZ:=v})/\
 (∀v,upd (enc x) 4 ([A.str v])=enc {x with name:=v})/\
 (∀v,upd (enc x) 5 (aJ.enc v)=enc {x with aY:=v})/\
 (∀(c0 c1 c2 c3 c4 c5 c6:A) (cs:List A),upd (c0::c1::c2::c3::c4::c5::c6::cs) 0 (enc x)=A.int .i64 x.kind::A.int .i64 x.aZ.site::A.int .i64 x.aZ.inc::A.int .i64 x.aZ.num::A.str x.name::A.int .i64 x.aY.mode::A.int .i64 x.aY.bJ::cs)/\
 (∀(c0 c1 c2 c3 c4 c5 c6:A),upd (enc x) 0 [c0,c1,c2,c3,c4,c5,c6]=[c0,c1,c2,c3,c4,c5,c6]):=by simp[sub,upd,zk0,A.pure1,zs0,A.scal1,zo2,LK.fits,dH,enc,aJ.enc,aF.enc]
end bI
@[ext] structure bM where
 central:aM
 events:(List bI)
namespace bM
def zero:bM:=⟨aM.zero,[]⟩
def enc(x:bM):List A:=aM.enc x.central++[A.sl (x.events.map bI.enc)]
instance:En bM:=⟨4,enc,zero⟩
end bM
@[ext] structure bZ where
 atoms:(List aO)
 set:(List Bool)
namespace bZ
def zero:bZ:=⟨[],[]⟩
def enc(x:bZ):List A:=[A.sl (x.atoms.map aO.enc),A.sl (x.set.map eB)]
@[go_sem] theorem len(x:bZ):(enc x).length=2:=by simp[enc]
instance:En bZ:=⟨2,enc,zero⟩
@[go_sem] theorem laws(x:bZ):
 zk0 (enc x)=true/\
 zs0 (enc x)=false/\
 sub (enc x) 0 2=enc x/\
 (∀y,upd (enc x) 0 (enc y)=enc y)/\
 sub (enc x) 0 1=[A.sl (x.atoms.map aO.enc)]/\
 sub (enc x) 1 1=[A.sl (x.set.map eB)]/\
 (∀v,upd (enc x) 0 ([A.sl (v.map aO.enc)])=enc {x with atoms:=v})/\
 (∀v,upd (enc x) 1 ([A.sl (v.map eB)])=enc {x with set:=v})/\
 (∀(c0 c1:A) (cs:List A),upd (c0::c1::cs) 0 (enc x)=A.sl (x.atoms.map aO.enc)::A.sl (x.set.map eB)::cs)/\
 (∀(c0 c1:A),upd (enc x) 0 [c0,c1]=[c0,c1])/\
 (∀y lo k,upd (enc x) 0 [.own y lo k]=[.own y lo k,A.sl (x.set.map eB)])/\
 (∀y lo k,upd (enc x) 1 [.own y lo k]=[A.sl (x.atoms.map aO.enc),.own y lo k]):=by simp[sub,upd,zk0,A.pure1,zs0,A.scal1,zo2,LK.fits,dH,enc]
end bZ
set_option linter.unusedVariables false
def zar2:A->List Nat
 | .own x _ _=>[x]
 | .ptr x _ _=>[x]
 | .ipt _ x _ _=>[x]
 | .mp x=>[x]
 | .it x=>[x]
 |_=>[]
def zaF9:A->List Nat
 | .clo _ cs=>cs.flatMap zar2
 |a=>zar2 a
def idsA:A->List Nat
 | .agg cs=>if zk0 cs then[]else cs.flatMap zaF9
 | .bnd _ cs=>if zk0 cs then[]else cs.flatMap zaF9
 |a=>zaF9 a
def zJ0:List A->List Nat
 |[]=>[]
 |x::xs=>idsA x++zJ0 xs
def idsP:PO->List A->List Nat
 | .mv,_=>[]
 |_,vs=>zJ0 vs
def disj:List Nat->List Nat->Bool
 |[],_=>true
 |x::xs,ys=>!ys.contains x&&disj xs ys
def zaG0(an:List Nat)(i:Nat):List (List Nat×List Nat)->List Nat->List Nat->Bool
 |[],_,_=>true
 |q::log,r,w=>(an.contains i||(disj q.2 r&&disj q.2 w&&disj w q.1))&&zaG0 an (i+1) log r w
def A.flatCap:A->Bool
 | .agg _=>false
 | .clo _ cs=>cs.isEmpty
 | .bnd _ _=>false
 |_=>true
def zaJ7:List A->Bool
 |[]=>true
 |c::cs=>c.flatCap&&zaJ7 cs
def zaJ8:List A->Bool
 | .clo _ caps::_=>zaJ7 caps
 |_=>true
def zaG1:PO->List A->Bool
 | .inv _ _ _ _,_=>false
 |_,vs=>zaJ8 vs
theorem zbz8{po:PO}{vs:List A}(h:zaG1 po vs=true):po.drawn=true:=by cases po<;>first|rfl|cases h
theorem zbW7{po:PO}{vs:List A}(h:zaG1 po vs=true):zaJ8 vs=true:=by cases po<;>first|exact h|cases h
theorem zbb5:∀{cs:List A},zaJ7 cs=true->∀c∈cs,idsA c=zar2 c
 |d::ds,h,c,hc=>by
  simp only[zaJ7,cF]at h;rcases dB.1 hc with rfl|hc
  .cases c<;>first|rfl|(simp[A.flatCap]at h;done)|skip
   rename_i f cs;cases cs with
   |nil=>rfl
   |cons x xs=>simp[A.flatCap]at h
  .exact zbb5 h.2 c hc
def zaf0(C:Cx)(an:List (List Nat)):List POp->St->List (List Nat×List Nat)->(St->Prop)->Prop
 |[],st,_,K=>K st
 |p::ps,st,log,K=>aopS C p st.toS st.nx λ v mw=>zaG0 (an.getD log.length []) 0 log (idsP p.po (zs1 C st p.xs)) (mw.map (·.1))=true/\zaG1 p.po (zs1 C st p.xs)=true/\
   zaf0 C an ps (st.app p.dst v mw) (log++[(idsP p.po (zs1 C st p.xs),mw.map (·.1))]) K
section
variable {C:Cx} {E:Env}
theorem zbW8{p:POp}{s:S}{id:Nat}{K:A->List (Nat×MS)->Prop}(h:aopS C p s id K):∃v mw,K v mw/\aopS C p s id (λ v' mw'=>v'=v/\mw'=mw):=by
 unfold aopS at h⊢;cases hg:zB6 s.fr p.g with
 |none=>simp[hg]at h
 |some g=>
  simp only[hg]at h⊢;cases hp:p.po<;>simp only[hp]at h|-
  case pick=>
   split at h
   .split at h
    .exact⟨_,_,h.2,h.1,rfl,rfl⟩
    .exact h.elim
   .exact h.elim
  case call f=>obtain⟨r,h1,h2,h3⟩:=h;exact⟨_,_,h3,r,h1,h2,rfl,rfl⟩
  case callv=>
   split at h
   .obtain⟨r,h1,h2,h3⟩:=h;exact⟨_,_,h3,r,h1,h2,rfl,rfl⟩
   .exact h.elim
  case callb=>
   split at h
   .obtain⟨r,h1,h2,h3⟩:=h;exact⟨_,_,h3,r,h1,h2,rfl,rfl⟩
   .exact h.elim
  case callm f=>obtain⟨l,as,ms,k,r,ms',k',h1,h2,h3,h4,h5⟩:=h;exact⟨_,_,h5,l,as,ms,k,r,ms',k',h1,h2,h3,h4,rfl,rfl⟩
  case callvm=>
   split at h
   .obtain⟨l,as,ms,k,r,ms',k',h1,h2,h3,h4,h5⟩:=h;exact⟨_,_,h5,l,as,ms,k,r,ms',k',h1,h2,h3,h4,rfl,rfl⟩
   .exact h.elim
  case inv t nm f pr=>
   split at h
   .obtain⟨l,as,ms,k,r,ms',k',h1,h2,h3,h4,h5⟩:=h;exact⟨_,_,h5,l,as,ms,k,r,ms',k',h1,h2,h3,h4,rfl,rfl⟩
   .exact h.elim
  all_goals
   split at h
   .exact⟨_,_,h.2.2,h.1,h.2.1,rfl,rfl⟩
   .exact⟨_,_,h.2.2,h.1,h.2.1,rfl,rfl⟩
theorem zcf9{p:POp}{st:St}{K:A->List (Nat×MS)->Prop}(h:aopS C p st.toS st.nx K):aopS C p st.toS st.nx (λ v mw=>mwOk st.nx mw/\K v mw):=by
 unfold aopS at h⊢;simp only[St.toS]at h⊢;cases hg:zB6 st.slot p.g with
 |none=>simp[hg]at h
 |some g=>
  simp only[hg]at h⊢;cases hp:p.po<;>simp only[hp]at h|-
  case pick=>
   split at h
   .split at h
    .exact⟨h.1,trivial,h.2⟩
    .exact h.elim
   .exact h.elim
  case call f=>obtain⟨r,h1,h2,h3⟩:=h;exact⟨r,h1,h2,zaq2 st _ _,h3⟩
  case callv=>
   split at h
   .obtain⟨r,h1,h2,h3⟩:=h;exact⟨r,h1,h2,zaq2 st _ _,h3⟩
   .exact h.elim
  case callb=>
   split at h
   .obtain⟨r,h1,h2,h3⟩:=h;exact⟨r,h1,h2,zaq2 st _ _,h3⟩
   .exact h.elim
  case callm f=>exact zaM8 h
  case callvm=>
   split at h
   .exact zaM8 h
   .exact h.elim
  case inv t nm f pr=>
   split at h
   .exact zaM8 h
   .exact h.elim
  all_goals
   split at h
   .rename_i ef hev;obtain⟨h1,h2,h3⟩:=h;exact⟨h1,h2,zbJ8 hev,h3⟩
   .exact⟨h.1,h.2.1,trivial,h.2.2⟩
theorem zaE2{m m2:Nat->MS}{x:A}(h:∀y∈zaF9 x,m y=m2 y):frz1 m x=frz1 m2 x/\(zV8 m x↔zV8 m2 x):=by
 cases x<;>first|exact⟨rfl,jD⟩|skip
 rename_i y lo n;have:=h y (by simp[zaF9,zar2]);simp only[frz1,zV8,this,jB]
theorem zbi7{x:A}:∀y∈zae8 x,y∈idsA x:=by
 cases x<;>intro y hy<;>first|(simp[zae8,zI3]at hy;done)|skip
 .rename_i z lo n;simpa [zae8,zI3,idsA,zaF9,zar2]using hy
 .rename_i cs;simp only[zae8,idsA]at hy⊢;split at hy
  .cases hy
  .rename_i hp;rw[cL hp];obtain⟨c,hc,hy⟩:=fA.1 hy;refine fA.2 ⟨c,hc,?_⟩;cases c<;>simp[zI3]at hy;subst hy;simp[zaF9,zar2]
theorem zbq3{m m2:Nat->MS}{x:A}(h:∀y∈idsA x,m y=m2 y):frz m x=frz m2 x/\(zac7 m x↔zac7 m2 x):=by
 cases x with
 |agg cs=>
  simp only[frz,zac7];split
  .exact⟨rfl,jD⟩
  .rename_i hp;simp only[idsA,cL hp]at h;have h2:∀c∈cs,∀y∈zaF9 c,m y=m2 y:=λ c hc y hy=>h y (fA.2 ⟨c,hc,hy⟩);exact⟨by rw[List.map_congr_left λ c hc=>(zaE2 (h2 c hc)).1],⟨λ hh c hc=>(zaE2 (h2 c hc)).2.1 (hh c hc),λ hh c hc=>(zaE2 (h2 c hc)).2.2 (hh c hc)⟩⟩
 |own x lo n=>exact zaE2 (x:=.own x lo n) h
 |_=>exact⟨rfl,jD⟩
theorem zap8{m m2:Nat->MS}:∀{xs:List A},(∀y∈zJ0 xs,m y=m2 y)->zC0 m xs=zC0 m2 xs/\(zx2 m xs↔zx2 m2 xs)
 |[],_=>⟨rfl,jD⟩
 |x::xs,h=>by obtain⟨h1,h2⟩:=zbq3 (x:=x) λ y hy=>h y (dN _ hy);obtain⟨h3,h4⟩:=zap8 (xs:=xs) λ y hy=>h y (dL _ hy);simp only[zC0,zx2,h1,h2,h3,h4,jB]
theorem zal4{m m2:Nat->MS}:∀{xs:List Nat},(∀y∈xs,m y=m2 y)->zG1 m xs=zG1 m2 xs
 |[],_=>rfl
 |x::xs,h=>by simp only[zG1,h x (.head _),zal4 λ y hy=>h y (.tail _ hy)]
theorem zak7:∀{xs:List A},∀y∈zz2 xs,y∈zJ0 xs
 |x::xs,y,hy=>by
  rcases dV.1 hy with h|h
  .exact dN _ (zbi7 y h)
  .exact dL _ (zak7 y h)
theorem zbL1:∀{vs as:List A},∀y∈fzM vs as,y∈zJ0 vs
 |v::vs,a::as,y,hy=>by
  rcases dV.1 hy with h|h
  .split at h
   .cases h
   .exact dN _ (zbi7 y h)
  .exact dL _ (zbL1 y h)
 |[],[],y,hy=>by cases hy
 |_::_,[],y,hy=>by cases hy
 |[],_::_,y,hy=>by cases hy
theorem zbb6{m m2:Nat->MS}{l:List (Nat×Nat)}{k:Nat}:∀{vs as:List A},(∀y∈zJ0 vs,m y=m2 y)->zaU1 m l k vs as->zaU1 m2 l k vs as
 |v::vs,a::as,h,h1=>by
  refine⟨?_,zbb6 (λ y hy=>h y (dL _ hy)) h1.2⟩;obtain⟨h3,h4⟩:=zbq3 (x:=v) λ y hy=>h y (dN _ hy);have h2:=h1.1;unfold argM at h2⊢;split
  .rename_i hh;rw[cQ hh]at h2;exact h2
  .rename_i hh;rw[cL hh]at h2;exact⟨h4.1 h2.1,h3▸h2.2⟩
 |[],[],_,_=>trivial
 |_::_,[],_,h=>h.elim
 |[],_::_,_,h=>h.elim
theorem zbb7{m m2:Nat->MS}{l:List (Nat×Nat)}{k:Nat}{fz:List Nat}:∀{ms:List (Nat×Row)},(∀q∈ms,m (rho l q.1)=m2 (rho l q.1))->zbo9 m l k fz ms->zbo9 m2 l k fz ms
 |[],_,_=>trivial
 |q::ms,h,h1=>by obtain⟨h2,h3,h4,h5,h6,h8,h7⟩:=h1;exact⟨by rw[<-h q (.head _)];exact h2,h3,h4,h5,h6,by rw[<-h q (.head _)];exact h8,zbb7 (λ p hp=>h p (.tail _ hp)) h7⟩
theorem zaR1{L:List (Nat×Nat)}{ms':List (Nat×Row)}:∀{ids:List Nat},∀x∈ids,rho L x∈(zQ6 L ms' ids).map (·.1)
 |y::ids,x,h=>by
  rcases dB.1 h with rfl|h
  .exact .head _
  .exact .tail _ (zaR1 x h)
theorem zbb8{m m2:Nat->MS}:∀{mw:List (Nat×MS)},(∀y∈mw.map (·.1),m y=m2 y)->zaU2 m mw->zaU2 m2 mw
 |[],_,_=>trivial
 |q::r,h,⟨h1,h3⟩=>⟨by rw[<-h q.1 (.head _)];exact h1,zbb8 (λ y hy=>h y (.tail _ hy)) h3⟩
theorem zbb9{f:FuncId}{m m2:Nat->MS}{id:Nat}{vals:List A}{og:Option (Nat×Bool)}{g:Bool}{ob:Prop}{v:A}{mw:List (Nat×MS)}(h1:∀y∈zJ0 vals,m y=m2 y)(h2:∀y∈mw.map (·.1),m y=m2 y)
  (h:zao1 C m id f vals og g ob (λ n=>∀x,id<=x->x<id+n->m x=.fresh) (λ v' mw'=>v'=v/\mw'=mw)):
  zao1 C m2 id f vals og g ob (λ n=>∀x,id<=x->x<id+n->m2 x=.fresh) (λ v' mw'=>v'=v/\mw'=mw):=by
 obtain⟨l,as,ms,k,r,ms',k',ht,hf,hvv,h5,h7,h8⟩:=h;have e0:mwM m2 (l++newL k id (k'-k)) vals as ms ms' k k'=mw:=by rw[<-h8,mwM,mwM,zal4 λ y hy=>h1 y (zbL1 y hy)]
 refine⟨l,as,ms,k,r,ms',k',λ hg=>?_,λ hg=>?_,hvv,h5,h7,e0⟩
 case refine_2=>rw[e0];rw[h8]at hf;exact⟨(hf hg).1,zbb8 h2 (hf hg).2⟩
 obtain⟨hob,h3,h4,h6⟩:=ht hg;obtain⟨g1,g2,g3,g4,g5,g6,g7,g8⟩:=h4;have hkk:k<=k':=dZ g6;have key:∀x∈ms.map (·.1)++(List.range (k'-k)).map (k+·),m (rho (l++newL k id (k'-k)) x)=m2 (rho (l++newL k id (k'-k)) x):=λ x hx=>by refine h2 _ ?_;rw[<-h8,mwM,eZ];exact dL _ (zaR1 x hx)
 have rhoOld:∀x,x<k->rho (l++newL k id (k'-k)) x=rho l x:=λ x hx=>by simp only[rho,zR6,zac8];rw[cL (by omega),jA]
 have rhoNew:∀i,i<k'-k->rho (l++newL k id (k'-k)) (k+i)=id+i:=λ i hi=>by simp only[rho,zR6,zac8];rw[zaz3 λ q hq=>by have:=g8 q hq;omega,cQ (by omega)];simp
 refine⟨hob,h3,⟨zbb6 h1 g1,zbb7 (λ q hq=>?_) g2,g3,g4,g5,g6,g7,g8⟩,λ x hx hx2=>?_⟩
 .have:=key q.1 (dN _ (cS.2 ⟨q,hq,rfl⟩));rwa [rhoOld q.1 (zaz5 g2 q.1 q.2 hq).2.2.1]at this
 .have:=key (k+(x-id)) (dL _ (cS.2 ⟨x-id,dT.2 (by omega),rfl⟩));rw[rhoNew _ (by omega),show id+(x-id)=x by omega]at this;rw[<-this];exact h6 x hx hx2
theorem zbn3(x y:List A):zJ0 (x++y)=zJ0 x++zJ0 y:=by
 induction x with
 |nil=>rfl
 |cons a x ih=>simp only[List.cons_append,zJ0,ih,dW]
theorem zbc0{y:Nat}:∀{caps:List A},(∀c∈caps,idsA c=zar2 c)->y∈zJ0 caps->y∈caps.flatMap zar2
 |c::cs,hc,h=>by
  rcases dV.1 h with h|h
  .exact fA.2 ⟨c,.head _,hc c (.head _)▸h⟩
  .obtain⟨d,hd,h2⟩:=fA.1 (zbc0 (λ d hd=>hc d (.tail _ hd)) h);exact fA.2 ⟨d,.tail _ hd,h2⟩
theorem zbc1{f:FuncId}{caps vals:List A}{y:Nat}(h:y∈zJ0 (vals++caps))(hc:∀c∈caps,idsA c=zar2 c):y∈zJ0 (.clo f caps::vals):=by
 rw[zbn3]at h;simp only[zJ0,dV];rcases dV.1 h with h|h
 .exact .inr h
 .exact .inl (zbc0 hc h)
theorem zbW9{id:Nat}{m m2:Nat->MS}{po:PO}{vals:List A}(h:∀y∈zJ0 vals,m y=m2 y):ev id m po vals=ev id m2 po vals:=by
 have e1:∀{x:A} {xs:List A},vals=x::xs->(∀y∈idsA x,m y=m2 y):=λ hv y hy=>h y (by rw[hv];exact dN _ hy);have e2:∀{x x2:A} {xs:List A},vals=x::x2::xs->(∀y∈idsA x2,m y=m2 y):=λ hv y hy=>h y (by rw[hv];exact dL _ (dN _ hy));have own:∀{x:Nat} {lo n:Nat},(∀y∈idsA (.own x lo n),m y=m2 y)->m x=m2 x:=λ hh=>hh _ (by simp[idsA,zaF9,zar2]);have ptr:∀{x:Nat} {lo n:Nat},(∀y∈idsA (.ptr x lo n),m y=m2 y)->m x=m2 x:=λ hh=>hh _ (by simp[idsA,zaF9,zar2]);have mp:∀{x:Nat},(∀y∈idsA (.mp x),m y=m2 y)->m x=m2 x:=λ hh=>hh _ (by simp[idsA,zaF9,zar2]);have hel:∀{x:A},(∀y∈idsA x,m y=m2 y)->zao0 m x=zao0 m2 x/\zY6 m x=zY6 m2 x:=λ{x} hh=>by
  cases x<;>first|exact⟨rfl,rfl⟩|skip
  simp only[zao0,zY6,own hh,jB]
 have hsl:∀{x:A} {sz:Nat} {lo hi mx:Option Int},(∀y∈idsA x,m y=m2 y)->zah8 m sz x lo hi mx=zah8 m2 sz x lo hi mx:=λ{x sz lo hi mx} hh=>by cases x<;>cases mx<;>first|rfl|(simp only[zah8,own hh])
 cases po
 case slc sz lo hi mx=>
  rcases vals with _|⟨x,_|⟨x2,_|⟨x3,_|⟨x4,_|⟨x5,xs⟩⟩⟩⟩⟩
  .cases lo<;>cases hi<;>cases mx<;>rfl
  .have hx:=e1 rfl;have:=λ{lo hi mx}=>hsl (sz:=sz) (lo:=lo) (hi:=hi) (mx:=mx) hx;cases lo<;>cases hi<;>cases mx<;>first|rfl|(simp only[ev,this])
  .have hx:=e1 rfl;have:=λ{lo hi mx}=>hsl (sz:=sz) (lo:=lo) (hi:=hi) (mx:=mx) hx;cases lo<;>cases hi<;>cases mx<;>cases x2<;>first|rfl|(simp only[ev,this])
  .have hx:=e1 rfl;have:=λ{lo hi mx}=>hsl (sz:=sz) (lo:=lo) (hi:=hi) (mx:=mx) hx;cases lo<;>cases hi<;>cases mx<;>cases x2<;>cases x3<;>first|rfl|(simp only[ev,this])
  .have hx:=e1 rfl;have:=λ{lo hi mx}=>hsl (sz:=sz) (lo:=lo) (hi:=hi) (mx:=mx) hx;cases lo<;>cases hi<;>cases mx<;>first|rfl|(cases x2<;>first|rfl|(cases x3<;>first|rfl|(cases x4<;>first|rfl|(simp only[ev,this]))))
  .cases lo<;>cases hi<;>cases mx<;>first|rfl|(cases x2<;>first|rfl|(cases x3<;>first|rfl|(cases x4<;>rfl)))
 case slcS lo hi=>rcases vals with _|⟨x,_|⟨x2,_|⟨x3,_|⟨x4,xs⟩⟩⟩⟩<;>cases lo<;>cases hi<;>first|rfl|(cases x<;>first|rfl|(cases x2<;>first|rfl|(cases x3<;>rfl)))
 case cvS=>
  rcases vals with _|⟨x,_|⟨x2,xs⟩⟩<;>first|rfl|skip
  obtain⟨g1,g2⟩:=hel (e1 rfl);simp only[ev,g1,g2]
 case append sz bytes z=>
  rcases vals with _|⟨x,_|⟨x2,_|⟨x3,xs⟩⟩⟩<;>first|rfl|skip
  have hx:=e1 rfl;obtain⟨g1,g2⟩:=hel (e2 rfl);simp only[ev,g1,g2];cases x<;>first|rfl|skip
  have e:=own hx;simp only[e]
 case appc sz bytes=>
  rcases vals with _|⟨x,_|⟨x2,_|⟨x3,xs⟩⟩⟩<;>first|rfl|skip
  have hx:=e1 rfl;obtain⟨g1,g2⟩:=hel (e2 rfl);simp only[ev,g1,g2];cases x<;>first|rfl|skip
  have e:=own hx;simp only[e]
 case clear sz z=>
  rcases vals with _|⟨x,_|⟨x2,xs⟩⟩<;>first|rfl|skip
  have hx:=e1 rfl;simp only[ev];cases x<;>first|rfl|skip
  have e:=own hx;simp only[e]
 case copy sz=>
  rcases vals with _|⟨x,_|⟨x2,_|⟨x3,xs⟩⟩⟩<;>first|rfl|skip
  have hx:=e1 rfl;obtain⟨g1,g2⟩:=hel (e2 rfl);simp only[ev,g1,g2];cases x<;>first|rfl|skip
  have e:=own hx;simp only[e]
 case load n ag=>
  rcases vals with _|⟨x,_|⟨x2,xs⟩⟩<;>first|rfl|skip
  have hx:=e1 rfl;cases x<;>first|rfl|skip
  have e:=ptr hx;simp only[ev,e]
 case store n=>
  rcases vals with _|⟨x,_|⟨x2,_|⟨x3,xs⟩⟩⟩<;>first|rfl|skip
  have hx:=e1 rfl;cases x<;>first|rfl|skip
  have e:=ptr hx;simp only[ev,e]
 case faddr off=>
  rcases vals with _|⟨x,_|⟨x2,xs⟩⟩<;>first|rfl|skip
  have hx:=e1 rfl;cases x<;>first|rfl|skip
  have e:=ptr hx;simp only[ev,e]
 case nilck=>
  rcases vals with _|⟨x,_|⟨x2,xs⟩⟩<;>first|rfl|skip
  have hx:=e1 rfl;cases x<;>first|rfl|skip
  have e:=ptr hx;simp only[ev,e]
 case len=>
  rcases vals with _|⟨x,_|⟨x2,xs⟩⟩<;>first|rfl|skip
  have hx:=e1 rfl;cases x<;>first|rfl|skip
  have e:=own hx;simp only[ev,e]
 case lkp ok ag kz z=>
  rcases vals with _|⟨x,_|⟨x2,_|⟨x3,xs⟩⟩⟩<;>first|rfl|(cases x<;>rfl)|skip
  have hx:=e1 rfl;cases x<;>first|rfl|skip
  have e:=mp hx;simp only[ev,e]
 case mupd kz ag n=>
  rcases vals with _|⟨x,_|⟨x2,_|⟨x3,_|⟨x4,xs⟩⟩⟩⟩<;>first|rfl|(cases x<;>rfl)|skip
  have hx:=e1 rfl;cases x<;>first|rfl|skip
  have e:=mp hx;simp only[ev,e]
 case rng=>
  rcases vals with _|⟨x,_|⟨x2,xs⟩⟩<;>first|rfl|(cases x<;>rfl)|skip
  have hx:=e1 rfl;cases x<;>first|rfl|skip
  have e:=mp hx;simp only[ev,e]
 case lenM=>
  rcases vals with _|⟨x,_|⟨x2,xs⟩⟩<;>first|rfl|(cases x<;>rfl)|skip
  have hx:=e1 rfl;cases x<;>first|rfl|skip
  have e:=mp hx;simp only[ev,e]
 case mki t=>
  rcases vals with _|⟨x,_|⟨x2,xs⟩⟩<;>first|rfl|(cases x<;>rfl)|skip
  have hx:=e1 rfl;cases x<;>first|rfl|skip
  have e:=ptr hx;simp only[ev,e]
 case iaA n sz=>
  rcases vals with _|⟨x,_|⟨x2,_|⟨x3,xs⟩⟩⟩<;>first|rfl|(cases x2<;>rfl)|skip
  have hx:=e1 rfl;cases x2<;>first|rfl|skip
  cases x<;>first|rfl|skip
  have e:=ptr hx;simp only[ev,e]
 case iaS sz z=>
  rcases vals with _|⟨x,_|⟨x2,_|⟨x3,xs⟩⟩⟩<;>first|rfl|(cases x2<;>rfl)|skip
  have hx:=e1 rfl;cases x2<;>first|rfl|skip
  cases x<;>first|rfl|skip
  have e:=own hx;simp only[ev,e]
 all_goals first
  |rfl
  |(rcases vals with _|⟨x,_|⟨x2,_|⟨x3,xs⟩⟩⟩<;>first|rfl|(cases x<;>first|rfl|(cases x2<;>rfl)))
theorem zaJ9{fr f2:Nat->A}:∀(xs:List PX),(∀t∈rdsX xs,fr t=f2 t)->zA3 C fr xs=zA3 C f2 xs/\(gdsF C fr xs↔gdsF C f2 xs)
 |[],_=>⟨rfl,jD⟩
 |x::xs,h=>by have h1:=zal2 (x:=x) C.G (f:=fr) (g:=f2) λ t ht=>h t ((zI4 x xs t).2 (.inl ht));obtain⟨h2,h3⟩:=zaJ9 xs λ t ht=>h t ((zI4 x xs t).2 (.inr ht));simp only[zA3,gdsF,h1,h2,h3,jB]
theorem zbF9{p:POp}{s s2:S}{id:Nat}{v:A}{mw:List (Nat×MS)}(hr:∀t∈p.rds,s.fr t=s2.fr t)(hm:∀y∈zJ0 (zA3 C s.fr p.xs),s.mem y=s2.mem y)(hw:∀y∈mw.map (·.1),s.mem y=s2.mem y)
  (hcap:∀f caps vals,(p.po=.callv\/p.po=.callvm)->zA3 C s.fr p.xs=.clo f caps::vals->∀c∈caps,idsA c=zar2 c) (hdr:p.po.drawn=true)
  (h:aopS C p s id (λ v' mw'=>v'=v/\mw'=mw)):aopS C p s2 id (λ v' mw'=>v'=v/\mw'=mw):=by
 have hx:∀t∈rdsX p.xs,s.fr t=s2.fr t:=λ t ht=>hr t (dL _ ht);obtain⟨hv,hgd⟩:=zaJ9 (C:=C) p.xs hx;have hgo:zB6 s2.fr p.g=zB6 s.fr p.g:=by
  cases hg:p.g with
  |none=>rfl
  |some q=>simp only[zB6];rw[hr q.1 (dN _ (by simp[hg]))]
 obtain⟨hf1,hf2⟩:=zap8 hm;have hcm:∀r,zx3 s.mem (zA3 C s.fr p.xs) r=zx3 s2.mem (zA3 C s.fr p.xs) r:=λ r=>by simp only[zx3,zal4 λ y hy=>hm y (zak7 y hy)]
 unfold aopS at h⊢;rw[hgo,<-hv,<-hgd];cases hg:zB6 s.fr p.g with
 |none=>simp[hg]at h
 |some g=>
  simp only[hg]at h⊢;cases hp:p.po<;>simp only[hp]at h|-
  case pick=>
   split at h
   .rename_i c x y hxs;simp only[hxs]at hx⊢;have e1:=zal2 (x:=c) C.G (f:=s.fr) (g:=s2.fr) λ t ht=>hx t ((zI4 _ _ _).2 (.inl ht));have e2:=zal2 (x:=x) C.G (f:=s.fr) (g:=s2.fr) λ t ht=>hx t ((zI4 _ _ _).2 (.inr ((zI4 _ _ _).2 (.inl ht))));have e3:=zal2 (x:=y) C.G (f:=s.fr) (g:=s2.fr) λ t ht=>hx t ((zI4 _ _ _).2 (.inr ((zI4 _ _ _).2 (.inr ht))));rw[<-e1,<-e2,<-e3];exact h
   .exact h.elim
  case call f=>rw[<-hf1,<-hf2];obtain⟨r,h1,h2,h3⟩:=h;exact⟨r,h1,by rw[<-hcm];exact h2,by rw[<-hcm];exact h3⟩
  case callv=>
   split at h
   .rename_i f caps vals hvals;have hc:=hcap f caps vals (.inl hp) hvals;have hm2:∀y∈zJ0 (vals++caps),s.mem y=s2.mem y:=λ y hy=>hm y (by rw[hvals];exact zbc1 hy hc);obtain⟨g1,g2⟩:=zap8 hm2;have hcm2:∀r,zx3 s.mem (vals++caps) r=zx3 s2.mem (vals++caps) r:=λ r=>by
     simp only[zx3,zal4 λ y hy=>hm2 y (zak7 y hy)]
    obtain⟨r,h1,h2,h3⟩:=h;rw[<-g1,<-g2];exact⟨r,h1,by rw[<-hcm2];exact h2,by rw[<-hcm2];exact h3⟩
   .exact h.elim
  case callb=>
   split at h
   .rename_i f cs vals hvals;have hm2:∀y∈zJ0 (.agg cs::vals),s.mem y=s2.mem y:=λ y hy=>hm y (by rw[hvals];exact hy);obtain⟨g1,g2⟩:=zap8 hm2;have hcm2:∀r,zx3 s.mem (.agg cs::vals) r=zx3 s2.mem (.agg cs::vals) r:=λ r=>by
     simp only[zx3,zal4 λ y hy=>hm2 y (zak7 y hy)]
    obtain⟨r,h1,h2,h3⟩:=h;rw[<-g1,<-g2];exact⟨r,h1,by rw[<-hcm2];exact h2,by rw[<-hcm2];exact h3⟩
   .exact h.elim
  case callm f=>exact zbb9 hm hw h
  case callvm=>
   split at h
   .rename_i f caps vals hvals;have hc:=hcap f caps vals (.inr hp) hvals;exact zbb9 (λ y hy=>hm y (by rw[hvals];exact zbc1 hy hc)) hw h
   .exact h.elim
  case inv t nm f pr=>rw[hp]at hdr;cases hdr
  all_goals
   rw[<-zbW9 (id:=id) hm];exact h
theorem zbz9{p:POp}{s s2:S}{id:Nat}{v:A}{mw:List (Nat×MS)}(hr:∀t∈p.rds,s.fr t=s2.fr t)(hm:∀y∈idsP p.po (zA3 C s.fr p.xs),s.mem y=s2.mem y)(hw:∀y∈mw.map (·.1),s.mem y=s2.mem y)
  (hcap:∀f caps vals,(p.po=.callv\/p.po=.callvm)->zA3 C s.fr p.xs=.clo f caps::vals->∀c∈caps,idsA c=zar2 c) (hdr:p.po.drawn=true)
  (h:aopS C p s id (λ v' mw'=>v'=v/\mw'=mw)):aopS C p s2 id (λ v' mw'=>v'=v/\mw'=mw):=by
 cases hpo:p.po with
 |mv=>
  have hx:∀t∈rdsX p.xs,s.fr t=s2.fr t:=λ t ht=>hr t (dL _ ht);obtain⟨hv,hgd⟩:=zaJ9 (C:=C) p.xs hx;have hgo:zB6 s2.fr p.g=zB6 s.fr p.g:=by
   cases hg:p.g with
   |none=>rfl
   |some q=>simp only[zB6];rw[hr q.1 (dN _ (by simp[hg]))]
  unfold aopS at h⊢;rw[hgo,<-hv,<-hgd];cases hg:zB6 s.fr p.g with
  |none=>simp[hg]at h
  |some g=>
   simp only[hg,hpo]at h⊢;have e:∀vals,ev id s.mem .mv vals=ev id s2.mem .mv vals:=λ vals=>by rcases vals with _|⟨x,_|⟨x2,xs⟩⟩<;>rfl
   rw[<-e];exact h
 |_=>exact zbF9 hr (λ y hy=>hm y (by rw[hpo];exact hy)) hw hcap hdr h
set_option maxHeartbeats 1000000 in
theorem zcQ1{id:Nat}{m:Nat->MS}{po:PO}{vals:List A}{ef:Ef}(h:ev id m po vals=some ef):id∈ef.mw.map (·.1)\/∀id',ev id' m po vals=some ef:=by
 cases po
 case nilown sz z=>rcases vals with _|⟨x,_|⟨x2,xs⟩⟩<;>cases h;exact .inl (by simp)
 case box n=>rcases vals with _|⟨x,_|⟨x2,xs⟩⟩<;>cases h;exact .inl (by simp)
 case alloc n z=>rcases vals with _|⟨x,xs⟩<;>cases h;exact .inl (by simp)
 case bown sz z=>simp only[ev,eJ]at h;subst h;exact .inl (by simp)
 case mkmap z=>rcases vals with _|⟨x,xs⟩<;>cases h;exact .inl (by simp)
 case rng=>
  rcases vals with _|⟨x,_|⟨x2,xs⟩⟩<;>first|(cases h;done)|(cases x<;>cases h;done)|skip
  cases x<;>simp only[ev]at h<;>first|(cases h;done)|skip
  split at h
  .cases h;exact .inl (by simp)
  .cases h
 case next d=>exact .inr λ id'=>by rw[<-h];rfl
 case entry d=>exact .inr λ id'=>by rw[<-h];rfl
 case lkp ok ag kz z=>exact .inr λ id'=>by rw[<-h];rcases vals with _|⟨x,_|⟨x2,_|⟨x3,xs⟩⟩⟩<;>first|rfl|(cases x<;>rfl)
 case mupd kz ag n=>exact .inr λ id'=>by rw[<-h];rcases vals with _|⟨x,_|⟨x2,_|⟨x3,_|⟨x4,xs⟩⟩⟩⟩<;>first|rfl|(cases x<;>rfl)
 case lenM=>exact .inr λ id'=>by rw[<-h];rcases vals with _|⟨x,_|⟨x2,xs⟩⟩<;>first|rfl|(cases x<;>rfl)
 case mk sz b z=>
  rcases vals with _|⟨x,_|⟨x2,_|⟨x3,xs⟩⟩⟩<;>first|(cases h;done)|(cases x<;>cases h;done)|skip
  .cases x<;>cases x2<;>cases h;exact .inl (by simp)
  .cases x<;>cases x2<;>cases h
 case append sz b z=>
  rcases vals with _|⟨x,_|⟨x2,_|⟨x3,xs⟩⟩⟩<;>first|(cases h;done)|skip
  simp only[ev,dD]at h;obtain⟨new,hnew,h⟩:=h;cases x<;>simp only[]at h<;>first|(cases h;done)|skip
  .cases h;exact .inl (by simp)
  .split at h
   .cases h;exact .inl (by simp)
   .cases h
 case appc sz b=>
  rcases vals with _|⟨x,_|⟨x2,_|⟨x3,xs⟩⟩⟩<;>first|(cases h;done)|skip
  simp only[ev,dD]at h;obtain⟨new,hnew,h⟩:=h;cases x<;>simp only[]at h<;>first|(cases h;done)|skip
  split at h
  .cases h;exact .inl (by simp)
  .cases h
 all_goals
  refine .inr λ id'=>?_;rw[<-h]
  first
   |rfl
   |(rename_i lo hi mx;cases lo<;>cases hi<;>cases mx<;>rcases vals with _|⟨x,_|⟨x2,_|⟨x3,_|⟨x4,_|⟨x5,xs⟩⟩⟩⟩⟩<;>first|rfl|(cases x2<;>first|rfl|(cases x3<;>first|rfl|(cases x4<;>rfl))))
   |(rename_i lo hi;cases lo<;>cases hi<;>rcases vals with _|⟨x,_|⟨x2,_|⟨x3,_|⟨x4,xs⟩⟩⟩⟩<;>first|rfl|(cases x<;>first|rfl|(cases x2<;>first|rfl|(cases x3<;>rfl))))
   |(rcases vals with _|⟨x,_|⟨x2,_|⟨x3,xs⟩⟩⟩<;>first|rfl|(cases x<;>first|rfl|(cases x2<;>rfl))|(cases x2<;>rfl))
theorem zcg0{p:POp}{s:S}{id:Nat}{v:A}{mw:List (Nat×MS)}(h:aopS C p s id (λ v' mw'=>v'=v/\mw'=mw)):id∈mw.map (·.1)\/∀id',id<=id'->aopS C p s id' (λ v' mw'=>v'=v/\mw'=mw):=by
 have cm:∀{f:FuncId} {vals:List A} {og:Option (Nat×Bool)} {g:Bool} {ob:Prop},zao1 C s.mem id f vals og g ob (λ n=>∀x,id<=x->x<id+n->s.mem x=.fresh) (λ v' mw'=>v'=v/\mw'=mw)->
   id∈mw.map (·.1)\/∀id',id<=id'->zao1 C s.mem id' f vals og g ob (λ n=>∀x,id'<=x->x<id'+n->s.mem x=.fresh) (λ v' mw'=>v'=v/\mw'=mw):=λ{f vals og g ob} h=>by
  obtain⟨l,as,ms,k,r,ms',k',ht,hf,hvv,h5,h7,h8⟩:=h
  by_cases hk:k=k'
  .have en:∀id',newL k id' (k'-k)=[]:=λ id'=>by rw[hk,gQ];rfl
   simp only[en]at hf hvv h7 h8;refine .inr λ id' hid=>⟨l,as,ms,k,r,ms',k',λ hg=>?_,?_⟩
   .obtain⟨hob,h3,h4,h6⟩:=ht hg;obtain⟨g1,g2,g3,g4,g5,g6,g7,g8⟩:=h4;exact⟨hob,h3,⟨g1,g2,g3,g4,g5,g6,λ q hq=>cR (g7 q hq) hid,g8⟩,λ x hx hx2=>by omega⟩
   .simp only[en];exact⟨hf,hvv,h5,h7,h8⟩
  .have hg:g=true:=by
    cases g with
    |true=>rfl
    |false=>exact absurd (hf rfl).1 hk
   obtain⟨hob,h3,h4,h6⟩:=ht hg;obtain⟨g1,g2,g3,g4,g5,g6,g7,g8⟩:=h4;have hkk:k<=k':=dZ g6;left;rw[<-h8,mwM,eZ];refine dL _ ?_;have:=zaR1 (L:=l++newL k id (k'-k)) (ms':=ms') (ids:=ms.map (·.1)++(List.range (k'-k)).map (k+·)) (k+0) (dL _ (cS.2 ⟨0,dT.2 (by omega),rfl⟩));have e:rho (l++newL k id (k'-k)) (k+0)=id+0:=by simp only[rho,zR6,zac8];rw[zaz3 λ q hq=>by have:=g8 q hq;omega,cQ (by omega)];simp
   rw[e]at this;exact this
 unfold aopS at h⊢;cases hg:zB6 s.fr p.g with
 |none=>simp[hg]at h
 |some g=>
  simp only[hg]at h⊢;cases hp:p.po<;>simp only[hp]at h|-
  case pick=>exact .inr λ _ _=>h
  case call f=>exact .inr λ _ _=>h
  case callv=>exact .inr λ _ _=>h
  case callb=>exact .inr λ _ _=>h
  case callm f=>exact cm h
  case callvm=>
   split at h
   .exact cm h
   .exact h.elim
  case inv t nm f pr=>
   split at h
   .exact cm h
   .exact h.elim
  all_goals
   split at h
   .rename_i ef hev;obtain⟨h1,h2,h3,h4⟩:=h;rcases zcQ1 hev with g1|g1
    .exact .inl (h4▸g1)
    .exact .inr λ id' _=>by rw[g1 id'];exact⟨h1,h2,h3,h4⟩
   .rename_i hev;exact .inr λ id' _=>by rw[<-zcp9 (id:=id) h.2.1,hev];exact h
end
end Ab
end Go.Proofs.YtamndckemppjdaaGreatDoor
