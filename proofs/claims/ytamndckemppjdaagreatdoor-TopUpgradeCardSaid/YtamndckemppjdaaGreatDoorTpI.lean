import Derived.KernelRfl
import Derived.Test.YtamndckemppjdaaGreatDoorHm36
namespace Go.Proofs.YtamndckemppjdaaGreatDoor
namespace Ab
set_option linter.unusedSimpArgs false
set_option linter.unusedVariables false
noncomputable section
def ers(c:aM):aM:={c with bA:=c.bA.map λ p=>{p with cost:=1}}
def inC(x:Int):Prop:=1<=x/\x<=100
def zaW8(c:aM):List Int:=c.bA.map (·.cost)
theorem zaW9(c:aM)(i:Nat)(h:i<c.bA.length):(ers c).bA.getD i aH.zero={c.bA.getD i aH.zero with cost:=1}:=by simp[ers,cK,h]
theorem zba1(c:aM)(p:aH)(h:inC p.cost):zs9 c p=zs9 (ers c) {p with cost:=1}:=by
 obtain⟨h1,h2⟩:=h;have e1:decide (p.cost<1)=false:=by simp;omega
 have e2:decide (1000<p.cost)=false:=by simp;omega
 have e3:∀a,zG0 c a=zG0 (ers c) a:=λ a=>rfl;have e4:∀j,zF9 c p j=zF9 (ers c) {p with cost:=1} j:=λ j=>rfl;have e5:decide ((1:Int)<1)=false:=rfl;have e6:decide ((1000:Int)<1)=false:=rfl;unfold zs9;simp only[e1,e2,e3,e4,e5,e6]
theorem zaD1{α:Type}{p:Prop}[Decidable p]{k k':Option α}(h:p->k=k'):gd p k=gd p k':=by
 unfold gd;split
 .exact h ‹_›
 .rfl
theorem zbf3(c:aM):(ers c).bA.length=c.bA.length:=by simp[ers]
theorem zaD2{i:Int}{n:Nat}(h:0<=i/\i<(n:Int)):i.toNat<n:=by omega
theorem zbS6(c:aM)(x:aF):zp4 c.bA x=zp4 (ers c).bA x:=by
 have e:zs4 c.bA=zs4 (ers c).bA:=by
  funext g;unfold zs4;rw[zbf3];split
  .refine zaD1 λ h=>?_;rw[zaW9 c _ (zaD2 h)];rfl
  .rfl
 unfold zp4 zc2;rw[e]
theorem zbr2(c:aM)(h:∀p∈c.bA,inC p.cost):zx7 c=zx7 (ers c):=by
 have e1:zM4 c=zM4 (ers c):=by funext a g;unfold zM4;simp only[<-zbS6]
 have e2:zG9 c=zG9 (ers c):=by funext j;unfold zG9;rw[e1];rfl
 have e3:zM5 c=zM5 (ers c):=by
  funext g;unfold zM5;rw[zbf3];split
  .refine zaD1 λ hg=>?_;refine zaD1 λ hg1=>?_;rw[zaW9 c _ (zaD2 hg),zba1 c _ (h _ (by
    rw[cK,cJ (zaD2 hg),Option.getD_some];exact gX _))]
   by_cases h0:decide (0<g)=true
   .rw[zaW9 c _ (zaD2 (hg1 h0))]
   .rw[cL h0,cL h0]
  .rfl
 unfold zx7;rw[e3,zbf3];have e4:(ers c).aB=c.aB:=rfl;have e5:(ers c).now=c.now:=rfl;rw[e4,e5];simp only[e2]
def zcb2(a0:aF)(a1:Int)(a2:bM):Option (Int×Int×(List aC)×(List bI)×(List aH)):=
 if(!zj7 a0)=true then some (1,a2.central.now,a2.central.aB,a2.events,a2.central.bA)else
 (zp4 a2.central.bA a0).bind λ v1=>
 if decide (0<=v1)=true then some (11,a2.central.now,a2.central.aB,a2.events,a2.central.bA)else
 if decide (8<=((a2.central.bA.length:Nat):Int))=true then some (4,a2.central.now,a2.central.aB,a2.events,a2.central.bA)else
 (zg8 (zP4 a0 a2) 0).bind (λ z=>zH5 a0 a1 a2 z)
theorem zci0(a0:aF)(a1:Int)(a2:bM)(h:inC a1):zt1 a0 a1 a2=zcb2 a0 a1 a2:=by
 obtain⟨h1,h2⟩:=h;have e1:decide (a1<1)=false:=by simp;omega
 have e2:decide (1000<a1)=false:=by simp;omega
 unfold zt1 zcb2;rw[e1,e2,hX,hX]
def zbI1(x:aX)(w:bM):Option (Int×bM):=
 bif decide (x.kind=1)then(zcb2 x.aZ x.n w).bind λ v1=>some (v1.1,⟨⟨v1.2.1,v1.2.2.1,v1.2.2.2.2⟩,v1.2.2.2.1⟩)else zw7 x w
theorem zcb3(x:aX)(w:bM)(h:x.kind=1->inC x.n):zw7 x w=zbI1 x w:=by
 unfold zbI1
 by_cases e:x.kind=1
 .rw[fX e,cond_true,<-zci0 _ _ _ (h e)];unfold zw7;rw[fX e,cQ rfl]
 .rw[iG e,cond_false]
def zcb4(c:aM)(x:aX):Option aM:=
 (zx7 (ers c)).bind λ v=>bif v then(zf9 c).bind λ v2=>(zbI1 x ⟨⟨v2.now,v2.aB,v2.bA⟩,[]⟩).bind λ v3=>bif decide (v3.1=0)then some v3.2.central else none else none
theorem zci1{c c':aM}{x:aX}(h:zcb4 c x=some c')(hc:∀y∈zaW8 c,inC y)(hx:x.kind=1->inC x.n):∃ev,zT2 c x=some (c',ev,0):=by
 unfold zcb4 at h;rw[<-zbr2 c (λ p hp=>hc _ (cS.2 ⟨p,hp,rfl⟩))]at h;obtain⟨v,h1,h⟩:=dD.1 h;cases v with
 |false=>cases h
 |true=>
  rw[cond_true]at h;obtain⟨v2,h2,h⟩:=dD.1 h;obtain⟨v3,h3,h⟩:=dD.1 h
  by_cases e:v3.1=0
  .rw[fX e,cond_true]at h;cases h;refine⟨v3.2.events,?_⟩;unfold zT2;rw[h1,Option.bind_some,h2];simp only[dS,cG,cV,Option.bind_some];rw[zcb3 _ _ hx,h3];simp[e]
  .rw[iG e,cond_false]at h;cases h
def runK:List aX->aM->Option (aM×List (List Int))
 |[],c=>some (c,[])
 |x::l,c=>(zcb4 c x).bind λ c'=>(runK l c').bind λ r=>some (r.1,zaW8 c::r.2)
theorem zbC7(l:List aX):∀(m:List aX) (j:Nat) (c c':aM) (ks:List (List Int)),l.drop j=m->j<=l.length->l.length<1000->runK m c=some (c',ks)->(∀q∈ks,∀y∈q,inC y)->(∀x∈l,x.kind=1->inC x.n)->
  zg8 (zae0 l) ((j:Int),c)=some (.inl c')
 |[],j,c,c',ks,hm,hj,hl,hr,_,_=>by
  have:j=l.length:=by have:=dA List.length hm;simp at this;omega
  subst this;cases hr;rw[zt6];simp[zae0]
 |x::m,j,c,c',ks,hm,hj,hl,hr,hk,hx=>by
  have hjl:j<l.length:=by have:=dA List.length hm;simp at this;omega
  have hxj:l.getD j aX.zero=x:=by have:=dA (·[0]?) hm;simp at this;simp[cK,this]
  have hxm:x∈l:=List.mem_of_mem_drop (hm▸gL);simp only[runK]at hr;obtain⟨c1,h1,hr⟩:=dD.1 hr;obtain⟨r,h2,hr⟩:=dD.1 hr;cases hr;obtain⟨ev,hdo⟩:=zci1 h1 (hk _ gL) (hx x hxm);rw[zt6];have hw:IntKind.i64.wrap ((j:Int)+1)=((j+1:Nat):Int):=by rw[IntKind.wrap_i64];omega
  have e:zae0 l ((j:Int),c)=some (.inl (((j+1:Nat):Int),c1)):=by
   unfold zae0;have hlt:decide ((j:Int)<(l.length:Int))=true:=by simp;omega
   rw[cQ hlt,zw6 (by omega)];simp only[Int.toNat_natCast,hxj,hdo,Option.bind_some,hw];simp
  rw[e];exact zbC7 l m (j+1) c1 r.1 r.2 (by rw[<-fD,hm];rfl) (by omega) hl h2 (λ q hq=>hk q (fB _ hq)) hx
theorem zbv7{l:List aX}{c c':aM}{ks:List (List Int)}(h:runK l c=some (c',ks))(hl:l.length<1000)(hk:∀q∈ks,∀y∈q,inC y)(hx:∀x∈l,x.kind=1->inC x.n):zY3 c l=some (c',true):=by unfold zY3;have:=zbC7 l l 0 c c' ks rfl (eQ _) hl h hk hx;rw[show((0:Int),c)=(((0:Nat):Int),c)from rfl,this];rfl
end
noncomputable section
def ord(n:Nat):List Nat:=(List.range 4).flatMap λ s=>[s,s+4].filter λ i=>Nat.blt i n
def pr(i:Nat):aF:=⟨(i% 4:Nat),1,((1+i/4:Nat):Int)⟩
def nm(i:Nat):ByteArray:=⟨#[UInt8.ofNat (97+i)]⟩
def res(i:Nat):aG:=⟨nm i,1,1,0⟩
def rq(j:Nat)(m:Int):bL:=⟨⟨0,⟨nm j,⟨m,0⟩⟩,[]⟩,0,0⟩
def zR3(n:Nat)(k:Nat->Int):List aX:=(List.range n).map λ i=>{aX.zero with kind:=1,aZ:=pr i,n:=k i}
def asks(n:Nat)(m:Int)(f:Nat->Nat):List aX:=(List.range n).map λ i=>{aX.zero with kind:=2,aZ:=pr i,aR:=rq (f i) m}
def zcz7(l:Nat):List aC:=(List.range l).map λ i=>⟨res i,[],[],[],0⟩
def bS(l n:Nat)(k:Nat->Int):aM:=⟨0,zcz7 l,(ord n).map λ i=>⟨pr i,k i,⟨[],[]⟩,false,bL.zero,0,0⟩⟩
def grow(n:Nat)(k:Nat->Int):List (List Int):=(List.range n).map λ j=>(ord j).map k
def zG6(n:Nat)(z:Bool)(k:Nat->Int):aM:=
  ⟨0,(List.range n).map (λ i=>bif z||!(i==0)then⟨res i,[⟨pr i,⟨5,0⟩⟩],[],[⟨pr ((i+n-1)% n),⟨5,0⟩,0,0⟩],2⟩else⟨res i,[⟨pr i,⟨5,0⟩⟩],[],[],1⟩),
   (ord n).map λ i=>bif z||!(i+1==n)then⟨pr i,k i,⟨[⟨nm i,⟨0,0⟩,⟨5,0⟩⟩],[]⟩,true,rq ((i+1)% n) 5,0,3⟩else⟨pr i,k i,⟨[⟨nm i,⟨0,0⟩,⟨5,0⟩⟩],[]⟩,false,bL.zero,0,2⟩⟩
def upS(n:Nat)(k:Nat->Int):aM:=
  ⟨0,[⟨res 0,(ord n).map (λ i=>⟨pr i,⟨3,0⟩⟩),(List.range n).map (λ i=>⟨pr i,⟨5,0⟩,0,0⟩),[],((2*n:Nat):Int)⟩],
   (ord n).map λ i=>⟨pr i,k i,⟨[⟨nm 0,⟨0,0⟩,⟨3,0⟩⟩],[]⟩,true,rq 0 5,0,3⟩⟩
def same(m n:Nat)(k:Nat->Int):List (List Int):=List.replicate m ((ord n).map k)
end
set_option maxRecDepth 100000
noncomputable section
theorem zcb5(c:aM)(h:∀y∈zaW8 c,inC y):zo4 c=zo4 (ers c):=by
 have e1:zO8 c=zO8 (ers c):=by
  funext g;unfold zO8;rw[zbf3];split
  .refine zaD1 λ hg=>?_;rw[zaW9 c _ (zaD2 hg)]
  .rfl
 have e2:zI7 c=zI7 (ers c):=by funext j;unfold zI7;rw[e1]
 have e3:zU9 c=zU9 (ers c):=rfl;unfold zo4;rw[e3,e2,zbr2 c (λ p hp=>h _ (cS.2 ⟨p,hp,rfl⟩))]
theorem zbS7(c:aM)(h:∀y∈zaW8 c,inC y):zu7 c=zu7 (ers c):=by unfold zu7;rw[zcb5 c h]
def rvK(a0:aI):Option (Bool):=
 if((!(zj7 a0.aZ))||((!decide (a0.label=(-1)))&&((decide (a0.label<1))||(decide (99<a0.label)))))=true then some false else
 if(decide (8<(a0.lower.length:Int)))=true then some false else
 (zg8 (zZ8 a0) 0).bind (λ|.inl z=>zZ7 z|.inr z=>some z)
theorem zcb6(o:aI)(h:1<=o.cost/\o.cost<=1000):zh8 o=rvK o:=by
 have e1:decide (o.cost<1)=false:=by simp;omega
 have e2:decide (1073741824<o.cost)=false:=by simp;omega
 unfold zh8 rvK;simp only[e1,e2,hX,fU];rfl
theorem zbC8(p:aH)(o:aI)(hc:inC p.cost)(h1:zj7 p.aZ=true)(h2:zi4 p.bH=some true)(h3:p.bW=true)(h4:zk7 p.aR=some true)(h5:p.bH.cB=[])
  (hO:zi6 p 1 (-1)=some o) (hV:zh8 o=some true):zu2 p=some [o]:=by
 obtain⟨c1,c2⟩:=hc;have e1:decide (p.cost<1)=false:=by simp;omega
 have e2:decide (1000<p.cost)=false:=by simp;omega
 have eB:(za7 []).bind (λ v3=>za5 v3)=some []:=by kernel_rfl
 have s0:zy7 p (0,[])=some (.inl (1,[])):=by kernel_rfl
 have s1:zB4 p (1,[]) (0,[])=some (.inl (1,[o])):=by
  have q:zB4 p (1,[]) (0,[])=(zi6 p 1 (-1)).bind λ v5=>(zh8 v5).bind λ v6=>if(!v6)=true then some (.inr (.inr []))else gd ((([]:List aI).length)+1<=4294967296)<|some (.inl ((IntKind.i64.wrap (0+1)),(([]:List aI)++[v5]))):=by kernel_rfl
  rw[q,hO,Option.bind_some,hV,Option.bind_some];rfl
 have s2:zB4 p (1,[]) (1,[o])=some (.inr (.inl [o])):=by kernel_rfl
 have s3:zy7 p (1,[])=some (.inl (2,[o])):=by
  have q:zy7 p (1,[])=(zg8 (zB4 p (1,[])) (0,[])).bind (λ|.inl z=>zN1 (1,[]) z|.inr z=>some (.inr z)):=by kernel_rfl
  rw[q,zt6,s1];simp only[];rw[zt6,s2];rfl
 have s4:zy7 p (2,[o])=some (.inr [o]):=by kernel_rfl
 have sL:zg8 (zy7 p) (0,[])=some [o]:=by rw[zt6,s0];simp only[];rw[zt6,s3];simp only[];rw[zt6,s4]
 unfold zu2;rw[e1,e2,h1,h5,sL];simp only[dS,hX,fW,dM,h2,h3,h4,Option.bind_some,cG,cV,iJ];have:(za7 []).bind (λ v3=>(za5 v3).bind λ v4=>zG5 [o])=((za7 []).bind (λ v3=>za5 v3)).bind λ v4=>zG5 [o]:=by rw[Option.bind_assoc]
 rw[this,eB];rfl
theorem zbI2(c:aM)(P:Nat->aH)(o:Nat->aI)(l:List aF)(hl:l.length<1000)(hF:∀j,(h:j<l.length)->zp9 c l[j]=some (P j,true))(hO:∀j,j<l.length->zu2 (P j)=some [o j]):
  zy1 c l=some ((List.range l.length).map o):=by
 have main:∀m j,j+m=l.length->zg8 (zL7 c l) ((j:Int),(List.range j).map o)=some ((List.range l.length).map o):=by
  intro m;induction m with
  |zero=>
   intro j hj;rw[zt6];unfold zL7;have:decide ((j:Int)<(l.length:Int))=false:=by simp;omega
   simp only[this,cG,cV];rw[show j=l.length by omega]
  |succ m ih=>
   intro j hj;have hjl:j<l.length:=by omega
   rw[zt6];have e:zL7 c l ((j:Int),(List.range j).map o)=some (.inl (((j+1:Nat):Int),(List.range (j+1)).map o)):=by
    unfold zL7;have h1:decide ((j:Int)<(l.length:Int))=true:=by simp;omega
    have hw:IntKind.i64.wrap ((j:Int)+1)=((j+1:Nat):Int):=by rw[IntKind.wrap_i64];omega
    rw[cQ h1,zw6 (by omega)];simp only[Int.toNat_natCast];rw[cK,cJ hjl,Option.getD_some,hF j hjl];simp only[Option.bind_some,hO j hjl];rw[zw6 (by simp;omega),hw,iY,eZ];rfl
   rw[e];exact ih (j+1) (by omega)
 unfold zy1;have:=main l.length 0 (by omega);rw[show((0:Int),([]:List aI))=(((0:Nat):Int),(List.range 0).map o)from rfl,this];rfl
theorem zbI3(opts:List aI)(v2:(List aF)×(List aF))(hl:opts.length<1000)(ho:∀o∈opts,zh8 o=some true/\ze2 v2.2 o.aZ=some true):
  ∀m j,j+m=opts.length->zg8 (zI8 opts v2) (j:Int)=some (.inl ()):=by
 intro m;induction m with
 |zero=>
  intro j hj;rw[zt6];unfold zI8;have:decide ((j:Int)<(opts.length:Int))=false:=by simp;omega
  simp only[this,cG,cV]
 |succ m ih=>
  intro j hj;have hjl:j<opts.length:=by omega
  have hm:=ho _ (gX hjl);rw[zt6];have e:zI8 opts v2 (j:Int)=some (.inl ((j+1:Nat):Int)):=by
   unfold zI8;have h1:decide ((j:Int)<(opts.length:Int))=true:=by simp;omega
   have hw:IntKind.i64.wrap ((j:Int)+1)=((j+1:Nat):Int):=by rw[IntKind.wrap_i64];omega
   rw[cQ h1,zw6 (by omega)];simp only[Int.toNat_natCast];rw[cK,cJ hjl,Option.getD_some,hm.1];simp only[Option.bind_some,dM,hm.2,hw];rfl
  rw[e];exact ih (j+1) (by omega)
theorem zbv8(W:aA)(opts:List aI)(v2:(List aF)×(List aF))(hW:zk3 W=some true)(hR:zl5 W=some v2)(hl:opts.length<=40)
  (ho:∀o∈opts,zh8 o=some true/\ze2 v2.2 o.aZ=some true):zI0 W opts=some true:=by
 unfold zI0;have h1:decide (40<(opts.length:Int))=false:=by simp;omega
 simp only[hW,h1,hR,Option.bind_some,dS,hX,cG,cV];have:=zbI3 opts v2 (by omega) ho opts.length 0 (by omega);rw[show(0:Int)=((0:Nat):Int)from rfl,this];rfl
end
noncomputable section
def gz(l:List aD)(i:Nat):aD:=l.getD i aD.zero
def cz(l:List aD)(i:Nat):Int:=(gz l i).cost
theorem zbl9{x y:aD}(h:zq4 x y=true):x.cost<=y.cost:=by
 unfold zq4 at h
 by_cases e:x.cost=y.cost
 .omega
 .simp[e]at h;omega
theorem zbm0{x y:aD}(h:zq4 x y=false):y.cost<=x.cost:=by
 unfold zq4 at h
 by_cases e:x.cost=y.cost
 .omega
 .simp[e]at h;omega
theorem zaX0(l:List aD)(i j:Nat)(hi:i<l.length)(hj:j<l.length):ze4 (i:Int) (j:Int) l=some (zq4 (gz l i) (gz l j),l):=by unfold ze4;rw[zw6 (by omega),zw6 (by omega)];rfl
def swp(l:List aD)(i j:Nat):List aD:=(l.set i (gz l j)).set j (gz l i)
theorem zbv9(l:List aD)(i j:Nat)(hi:i<l.length)(hj:j<l.length):zd0 (i:Int) (j:Int) l=some (swp l i j):=by unfold zd0;rw[zw6 (by omega),zw6 (by omega),zw6 (by omega),zw6 (by omega)];rfl
theorem zZ3(l:List aD)(i j:Nat):(swp l i j).length=l.length:=by simp[swp]
theorem zbI4(l:List aD)(i j m:Nat)(hi:i<l.length)(hj:j<l.length):gz (swp l i j) m=if m=j then gz l i else if m=i then gz l j else gz l m:=by
 unfold gz swp;simp only[cK,List.getElem?_set,iW]
 by_cases h1:m=j
 .subst h1;simp[hj,gz]
 .rw[cL (iP h1),cL h1]
  by_cases h2:m=i
  .subst h2;simp[hi,gz]
  .rw[cL (iP h2),cL h2]
theorem zbI5(l:List aD)(i j m:Nat)(hi:i<l.length)(hj:j<l.length):cz (swp l i j) m=if m=j then cz l i else if m=i then cz l j else cz l m:=by
 unfold cz;rw[zbI4 l i j m hi hj];split
 .rfl
 .split<;>rfl
theorem zbm1(l:List aD)(i j:Nat)(hi:i<l.length)(hj:j<l.length):(swp l i j).Perm l:=by
 have h:=Array.swap_perm (xs:=l.toArray) (i:=i) (j:=j) (by simpa using hi) (by simpa using hj);have e:(l.toArray.swap i j (by simpa using hi) (by simpa using hj))=(swp l i j).toArray:=by simp[Array.swap,swp,gz,cK,hi,hj]
 rw[e]at h;exact Array.perm_iff_toList_perm.1 h
def HP(n:Nat)(l:List aD):Prop:=∀j,0<j->j<n->cz l ((j-1)/2)<=cz l j
theorem HP.min{l:List aD}(h:HP l.length l):∀j,j<l.length->cz l 0<=cz l j:=by
 intro j;induction j using Nat.strongRecOn with
 |ind j ih=>
  intro hj
  by_cases h0:j=0
  .subst h0;exact iC _
  .have h1:=h j (by omega) hj;have h2:=ih ((j-1)/2) (by omega) (by omega);omega
theorem HP.least{l:List aD}(h:HP l.length l){y:aD}(hy:y∈l):(gz l 0).cost<=y.cost:=by obtain⟨j,hj,rfl⟩:=gH hy;have:=h.min j hj;simp only[cz,gz,cK,cJ hj,Option.getD_some]at this⊢;exact this
theorem w64{x:Int}(h:-1000000<=x/\x<=1000000):IntKind.i64.wrap x=x:=by rw[IntKind.wrap_i64];omega
theorem zcS0:∀(j:Nat) (l:List aD),j<l.length->l.length<=1000->(∀m,0<m->m<l.length->m≠j->cz l ((m-1)/2)<=cz l m)->(∀m,0<m->m<l.length->(m-1)/2=j->0<j->cz l ((j-1)/2)<=cz l m)->
  ∃l',zg8 zu3 ((j:Int),l)=some l'/\HP l'.length l'/\l'.Perm l:=by
 intro j;induction j using Nat.strongRecOn with
 |ind j ih=>
  intro l hj hl h1 h2
  by_cases h0:j=0
  .subst h0;refine⟨l,?_,λ m hm0 hm=>h1 m hm0 hm (by omega),.refl _⟩;rw[zt6];have e:zu3 (((0:Nat):Int),l)=some (.inr l):=by
    unfold zu3;have w:IntKind.i64.wrap ((IntKind.i64.wrap (((0:Nat):Int)-1)).tdiv 2)=((0:Nat):Int):=by rw[w64 (x:=((0:Nat):Int)-1) (by omega)];rfl
    simp only[w];simp[gd]
   rw[e]
  .have w:IntKind.i64.wrap ((IntKind.i64.wrap ((j:Int)-1)).tdiv 2)=(((j-1)/2:Nat):Int):=by
    rw[w64 (x:=(j:Int)-1) (by omega)];have:((j:Int)-1).tdiv 2=(((j-1)/2:Nat):Int):=by rw[Int.tdiv_eq_ediv_of_nonneg (by omega)];omega
    rw[this,w64 (by omega)]
   obtain⟨i,hi⟩:∃i,i=(j-1)/2:=⟨_,rfl⟩;rw[<-hi]at w h2;have hij:i<j:=by omega
   have hne:decide ((i:Int)=(j:Int))=false:=by simp;omega
   rw[zt6];cases hb:zq4 (gz l j) (gz l i)with
   |false=>
    refine⟨l,?_,λ m hm0 hm=>?_,.refl _⟩
    .have e:zu3 ((j:Int),l)=some (.inr l):=by
      unfold zu3;simp only[w,hne,fW,dM,zaX0 l j i hj (by omega),Option.bind_some,hb];simp[gd]
     rw[e]
    .by_cases e:m=j
     .subst e;rw[<-hi];exact zbm0 hb
     .exact h1 m hm0 hm e
   |true=>
    have hc:=zbl9 hb;have hil:i<l.length:=by omega
    have e:zu3 ((j:Int),l)=some (.inl ((i:Int),swp l i j)):=by unfold zu3;simp only[w,hne,fW,dM,zaX0 l j i hj (by omega),Option.bind_some,hb,dS,iH,cG,cV,zbv9 l i j hil hj];rw[zw6 trivial,zw6 (zZ3 l i j)]
    rw[e];simp only[];have cs:=λ m=>zbI5 l i j m hil hj;obtain⟨l',g1,g2,g3⟩:=ih i hij (swp l i j) (by rw[zZ3];omega) (by rw[zZ3];exact hl) (λ m hm0 hm hmi=>by
     rw[zZ3]at hm;rw[cs,cs];change cz l j<=cz l i at hc
     by_cases e1:m=j
     .subst e1;rw[<-hi,cL (by omega),cQ rfl,cQ rfl];exact hc
     .rw[cL e1,cL hmi]
      by_cases e2:(m-1)/2=j
      .rw[cQ e2];have:=h2 m hm0 hm e2 (by omega);omega
      .rw[cL e2];have:=h1 m hm0 hm e1
       by_cases e3:(m-1)/2=i
       .rw[cQ e3];rw[e3]at this;omega
       .rw[cL e3];exact this) (λ m hm0 hm hmi hi0=>by
     rw[zZ3]at hm;rw[cs,cs,cL (by omega),cL (by omega)];have hI:=h1 i hi0 hil (by omega)
     by_cases e1:m=j
     .rw[cQ e1];exact hI
     .rw[cL e1,cL (by omega)];have:=h1 m hm0 hm e1;rw[hmi]at this;omega)
    exact⟨l',g1,g2,g3.trans (zbm1 l i j hil hj)⟩
theorem zcS1(n:Nat):∀(k i:Nat) (l:List aD),n-i<=k->n<=l.length->l.length<=1000->i<=n->(∀m,0<m->m<n->(m-1)/2≠i->cz l ((m-1)/2)<=cz l m)->(∀m,0<m->m<n->(m-1)/2=i->0<i->cz l ((i-1)/2)<=cz l m)->
  ∃z l',zg8 (zr5 (n:Int)) ((i:Int),l)=some (z,l')/\HP n l'/\l'.Perm l/\l'.length=l.length/\∀m,n<=m->gz l' m=gz l m:=by
 intro k;induction k with
 |zero=>
  intro i l hk hn hl hin h1 h2;have hi:i=n:=by omega
  refine⟨(i:Int),l,?_,λ m hm0 hm=>h1 m hm0 hm (by omega),.refl _,rfl,λ m hm=>rfl⟩;rw[zt6];have e:zr5 (n:Int) ((i:Int),l)=some (.inr ((i:Int),l)):=by
   unfold zr5;have w1:IntKind.i64.wrap (2*(i:Int))=2*(i:Int):=w64 (by omega);have w2:IntKind.i64.wrap (2*(i:Int)+1)=2*(i:Int)+1:=w64 (by omega);have d1:decide ((n:Int)<=2*(i:Int)+1)=true:=by simp;omega
   simp only[w1,w2,d1,Bool.true_or,dM]
  rw[e]
 |succ k ih=>
  intro i l hk hn hl hin h1 h2;have w1:IntKind.i64.wrap (2*(i:Int))=2*(i:Int):=w64 (by omega);have w2:IntKind.i64.wrap (2*(i:Int)+1)=((2*i+1:Nat):Int):=by rw[w64 (by omega)];omega
  have w3:IntKind.i64.wrap (((2*i+1:Nat):Int)+1)=((2*i+2:Nat):Int):=by rw[w64 (by omega)];omega
  rw[zt6]
  by_cases hs:n<=2*i+1
  .refine⟨(i:Int),l,?_,λ m hm0 hm=>h1 m hm0 hm (by omega),.refl _,rfl,λ m hm=>rfl⟩;have e:zr5 (n:Int) ((i:Int),l)=some (.inr ((i:Int),l)):=by
    unfold zr5;have d1:decide ((n:Int)<=((2*i+1:Nat):Int))=true:=by simp;omega
    simp only[w1,w2,d1,Bool.true_or,dM]
   rw[e]
  .have d1:decide ((n:Int)<=((2*i+1:Nat):Int))=false:=by simp;omega
   have d2:decide (((2*i+1:Nat):Int)<0)=false:=by simp;omega
   obtain⟨j,hj1,hj2,hj3,hj4,hbody⟩:∃j:Nat,(j=2*i+1\/j=2*i+2)/\j<n/\cz l j<=cz l (2*i+1)/\(2*i+2<n->cz l j<=cz l (2*i+2))/\
     ∃b,zr5 (n:Int) ((i:Int),l)=zt2 ((i:Int),l) (b,l) (j:Int):=by
    by_cases hr:2*i+2<n
    .have d3:decide (((2*i+2:Nat):Int)<(n:Int))=true:=by simp;omega
     have hle:=zaX0 l (2*i+2) (2*i+1) (by omega) (by omega);cases hb:zq4 (gz l (2*i+2)) (gz l (2*i+1))with
     |false=>have:=zbm0 hb;refine⟨2*i+1,.inl rfl,by omega,iC _,λ _=>this,false,?_⟩;unfold zr5;simp only[w1,w2,w3,d1,d2,d3,iH,cG,cV,dM,hle,Option.bind_some,hb,iJ];rw[zw6 trivial]
     |true=>have:=zbl9 hb;refine⟨2*i+2,.inr rfl,by omega,this,λ _=>iC _,true,?_⟩;unfold zr5;simp only[w1,w2,w3,d1,d2,d3,iH,cG,cV,dM,hle,Option.bind_some,hb,Bool.and_self];rw[zw6 trivial]
    .have d3:decide (((2*i+2:Nat):Int)<(n:Int))=false:=by simp;omega
     refine⟨2*i+1,.inl rfl,by omega,iC _,λ h=>absurd h hr,false,?_⟩;unfold zr5;simp only[w1,w2,w3,d1,d2,d3,iH,cG,cV,Option.bind_some,iJ];rw[zw6 trivial]
   obtain⟨b,hbody⟩:=hbody;have hil:i<l.length:=by omega
   have hjl:j<l.length:=by omega
   rw[hbody];cases hb:zq4 (gz l j) (gz l i)with
   |false=>
    have hc:cz l i<=cz l j:=zbm0 hb;refine⟨(i:Int),l,?_,λ m hm0 hm=>?_,.refl _,rfl,λ m hm=>rfl⟩
    .have e:zt2 ((i:Int),l) (b,l) (j:Int)=some (.inr ((i:Int),l)):=by
      unfold zt2;simp only[zaX0 l j i hjl hil,Option.bind_some,hb,fW,dM];rw[zw6 trivial]
     rw[e]
    .by_cases e:(m-1)/2=i
     .rw[e];have hm2:m=2*i+1\/m=2*i+2:=by omega
      rcases hm2 with rfl|rfl
      .omega
      .have:=hj4 hm;omega
     .exact h1 m hm0 hm e
   |true=>
    have hc:cz l j<=cz l i:=zbl9 hb;have e:zt2 ((i:Int),l) (b,l) (j:Int)=some (.inl ((j:Int),swp l i j)):=by unfold zt2;simp only[zaX0 l j i hjl hil,Option.bind_some,hb,dS,cG,cV,zbv9 l i j hil hjl];rw[zw6 trivial,zw6 (zZ3 l i j)]
    rw[e];simp only[];have cs:=λ m=>zbI5 l i j m hil hjl;obtain⟨z,l',g1,g2,g3,g4,g5⟩:=ih j (swp l i j) (by omega) (by rw[zZ3];exact hn) (by rw[zZ3];exact hl) (by omega) (λ m hm0 hm hmj=>by
     rw[cs,cs,cL hmj]
     by_cases e1:(m-1)/2=i
     .rw[cQ e1]
      by_cases e2:m=j
      .rw[cQ e2];exact hc
      .rw[cL e2,cL (by omega)];have hm2:m=2*i+1\/m=2*i+2:=by omega
       rcases hm2 with rfl|rfl
       .omega
       .have:=hj4 hm;omega
     .rw[cL e1,cL (by omega)]
      by_cases e2:m=i
      .rw[cQ e2];subst e2;exact h2 j (by omega) hj2 (by omega) hm0
      .rw[cL e2];exact h1 m hm0 hm e1) (λ m hm0 hm hmj hj0=>by
     have ep:(j-1)/2=i:=by omega
     rw[cs,cs,ep,cL (by omega),cQ rfl,cL (by omega),cL (by omega)];have:=h1 m hm0 hm (by omega);rw[hmj]at this;exact this)
    refine⟨z,l',g1,g2,g3.trans (zbm1 l i j hil hjl),by rw[g4,zZ3],λ m hm=>?_⟩;rw[g5 m hm,zbI4 l i j m hil hjl,cL (by omega),cL (by omega)]
theorem zci2(c:aD)(l:List aD)(hl:l.length<1000)(h:HP l.length l):∃l',zl2 c l=some l'/\HP l'.length l'/\l'.Perm (l++[c]):=by
 have hg:∀m,m<l.length->cz (l++[c]) m=cz l m:=λ m hm=>by simp[cz,gz,cK,dF hm]
 obtain⟨l',g1,g2,g3⟩:=zcS0 l.length (l++[c]) (by simp) (by simp;omega) (λ m hm0 hm hne=>by
  simp at hm;rw[hg _ (by omega),hg _ (by omega)];exact h m hm0 (by omega)) (λ m hm0 hm hp hl0=>by
  simp at hm;omega)
 refine⟨l',?_,g2,g3⟩;unfold zl2 zd5 zd3 zk6;have w:IntKind.i64.wrap ((((l++[c]).length:Nat):Int)-1)=((l.length:Nat):Int):=by rw[w64 (by simp;omega)];simp
 rw[zw6 (by omega)];simp only[Option.bind_some,w,g1];rw[zw6 trivial];rfl
theorem zcz8(l:List aD)(h0:0<l.length)(hl:l.length<=1000)(h:HP l.length l):∃l',zl4 l=some (gz l 0,l')/\HP l'.length l'/\(gz l 0::l').Perm l:=by
 obtain⟨n,hn⟩:∃n,l.length=n+1:=⟨l.length-1,by omega⟩;have hnl:n<l.length:=by omega
 have cs:=λ m=>zbI5 l 0 n m h0 hnl;obtain⟨z,l',g1,g2,g3,g4,g5⟩:=zcS1 n n 0 (swp l 0 n) (by omega) (by rw[zZ3];omega) (by rw[zZ3];exact hl) (by omega) (λ m hm0 hm hp=>by
  rw[cs,cs,cL (by omega),cL hp,cL (by omega),cL (by omega)];exact h m hm0 (by omega)) (λ m hm0 hm hp hi=>absurd hi (by omega))
 have w:IntKind.i64.wrap ((l.length:Int)-1)=((n:Nat):Int):=by rw[hn,w64 (by omega)];omega
 have hl':l'.length=n+1:=by rw[g4,zZ3,hn]
 have hgn:gz l' n=gz l 0:=by rw[g5 n (cU _),zbI4 l 0 n n h0 hnl,cQ rfl]
 have hsp:l'.take n++[gz l 0]=l':=by
  have e:=dY n l';have e2:l'.drop n=[gz l 0]:=by rw[<-hgn,gz,cK,cJ (by omega),Option.getD_some];rw[gF (by omega),List.drop_eq_nil_of_le (by omega)]
  rw[e2]at e;exact e
 refine⟨l'.take n,?_,λ j hj0 hj=>?_,?_⟩
 .have w0:(0:Int)=((0:Nat):Int):=rfl;unfold zl4 zd3;simp only[Option.bind_some,w];rw[zw6 trivial,w0,zbv9 l 0 n h0 hnl,Option.bind_some,zw6 (zZ3 l 0 n)];unfold zi2 zE2 zd6;rw[g1];simp only[Option.bind_some];have w2:IntKind.i64.wrap ((l'.length:Int)-1)=((n:Nat):Int):=by rw[hl',w64 (by omega)];omega
  simp only[w2];rw[zw6 (by omega),zw6 (by omega)];simp only[Option.bind_some,Int.toNat_natCast];change some (gz l' n,_)=_;rw[hgn]
 .simp only[dR]at hj;have hx:∀m,m<n->cz (l'.take n) m=cz l' m:=λ m hm=>by
   simp[cz,gz,cK,dG,hm]
  rw[hx _ (by omega),hx _ (by omega)];exact g2 j hj0 (by omega)
 .have:=(List.perm_append_comm (l₁:=l'.take n) (l₂:=[gz l 0])).symm;rw[hsp]at this;exact this.trans (g3.trans (zbm1 l 0 n h0 hnl))
end
noncomputable section
def bl(s:Nat):Nat:=bif s==0 then 0 else Nat.log2 s+1
def pc(s:Nat):Nat:=((List.range 8).filter λ i=>s.testBit i).length
def idx(s:Nat):List Int:=((List.range 8).filter λ i=>s.testBit i).map λ i=>((i:Nat):Int)
def anc(s t:Nat):Bool:=t% 2^bl s==s
def tot(c:Nat->Int)(s:Nat):Int:=(((List.range 8).filter λ i=>s.testBit i).map c).sum
theorem zab6{α:Type}{f g:Nat->α}{n:Nat}(h:(List.range n).map f=(List.range n).map g):∀s,s<n->f s=g s:=λ s hs=>List.map_inj_left.1 h s (dT.2 hs)
theorem zaM1{p:Nat->Bool}{n:Nat}(h:(List.range n).all p=true):∀s,s<n->p s=true:=λ s hs=>gV.1 h s (dT.2 hs)
theorem zbI6(x:Int):∀s,s<256->zd8 ⟨x,((s:Nat):Int)⟩=some (idx s):=
 zab6 (f:=λ s=>zd8 ⟨x,((s:Nat):Int)⟩) (g:=λ s=>some (idx s)) (by kernel_rfl)
theorem zcz9:∀s,s<256->zg4 ((s:Nat):Int)=some ((bl s:Nat):Int):=
 zab6 (f:=λ s=>zg4 ((s:Nat):Int)) (g:=λ s=>some ((bl s:Nat):Int)) (by kernel_rfl)
def kid(s i:Nat):Bool:=!(Nat.ble (bl s) i)||(s.testBit i==false&&Nat.blt (s+2^i) 256&&pc (s+2^i)==pc s+1&&bl (s+2^i)==i+1&&
 decide (((List.range 8).filter λ j=>(s+2^i).testBit j)=((List.range 8).filter λ j=>s.testBit j)++[i])&&
 decide (zn0 .and .i64 ((s:Nat):Int) ((2^i:Nat):Int)=0)&&decide (zn0 .or .u64 ((s:Nat):Int) (IntKind.u64.wrap (1*2^(Nat.min i IntKind.u64.bits)))=((s+2^i:Nat):Int)))
theorem zci3:∀s,s<256->∀i,i<8->kid s i=true:=λ s hs i hi=>zaM1 (zaM1 (p:=λ s=>(List.range 8).all λ i=>kid s i) (n:=256) (by kernel_rfl) s hs) i hi
structure Kid (s i:Nat):Prop where
 lt:s+2^i<256
 pc:pc (s+2^i)=pc s+1
 bl:bl (s+2^i)=i+1
 mem:((List.range 8).filter λ j=>(s+2^i).testBit j)=((List.range 8).filter λ j=>s.testBit j)++[i]
 an:zn0 .and .i64 ((s:Nat):Int) ((2^i:Nat):Int)=0
 or:zn0 .or .u64 ((s:Nat):Int) (IntKind.u64.wrap (1*2^(Nat.min i IntKind.u64.bits)))=((s+2^i:Nat):Int)
theorem zbw0{s i:Nat}(hs:s<256)(hi:i<8)(h:bl s<=i):Kid s i:=by have:=zci3 s hs i hi;unfold kid at this;rw[show Nat.ble (bl s) i=true from dU h]at this;simp only[dS,fU,cF,eV,cY,Nat.blt_eq]at this;obtain⟨⟨⟨⟨⟨⟨_,h1⟩,h2⟩,h3⟩,h4⟩,h5⟩,h6⟩:=this;exact⟨h1,h2,h3,h4,h5,h6⟩
theorem zci4(c:Nat->Int){s i:Nat}(hs:s<256)(hi:i<8)(h:bl s<=i):tot c (s+2^i)=tot c s+c i:=by unfold tot;rw[(zbw0 hs hi h).mem];simp
theorem zci5:∀s,s<256->∀t,t<256->anc s t=true->s=t\/∃i,bl s<=i/\i<bl t/\anc (s+2^i) t=true:=by
 have h:=λ s hs=>zaM1 (zaM1 (p:=λ s=>(List.range 256).all λ t=>!(anc s t)||s==t||(List.range 8).any λ i=>Nat.ble (bl s) i&&Nat.blt i (bl t)&&anc (s+2^i) t) (n:=256) (by kernel_rfl) s hs);intro s hs t ht ha;have:=h s hs t ht;rw[ha]at this;simp only[dS,fU,iV,cY,gY,cF,Nat.ble_eq,Nat.blt_eq]at this;rcases this with h|⟨i,_,⟨h1,h2⟩,h3⟩
 .exact .inl h
 .exact .inr ⟨i,h1,h2,h3⟩
theorem zcb7(t:Nat):anc 0 t=true:=by have:bl 0=0:=rfl;unfold anc;rw[this];simp[Nat.mod_one]
theorem zbN1{c:Nat->Int}(hc:∀i,0<=c i){p q:Nat->Bool}(h:∀i,p i=true->q i=true):∀l:List Nat,((l.filter p).map c).sum<=((l.filter q).map c).sum
 |[]=>iC _
 |a::l=>by
  have ih:=zbN1 hc h l;simp only[gZ];cases hp:p a with
  |true=>simp[h a hp];omega
  |false=>
   cases hq:q a with
   |true=>have:=hc a;simp;omega
   |false=>simpa using ih
theorem zcb8{s t:Nat}(h:anc s t=true):∀i,s.testBit i=true->t.testBit i=true:=by intro i hi;unfold anc at h;have h:=of_decide_eq_true h;rw[<-h,Nat.testBit_mod_two_pow]at hi;simp at hi;exact hi.2
theorem zci6{c:Nat->Int}(hc:∀i,0<=c i){s t:Nat}(h:anc s t=true):tot c s<=tot c t:=zbN1 hc (zcb8 h) _
end
noncomputable section
theorem zbc6{V:Type}(a b:Int)(v:V):∀l:List (Int×V),zao2 a (zaP0 b v l)=if a=b then some v else zao2 a l
 |[]=>by
  simp only[zaP0,zao2];cases h:a==b with
  |false=>rw[cL (by simpa using h)];rfl
  |true=>rw[cQ (by simpa using h)];rfl
 |p::l=>by
  simp only[zaP0];cases hb:b==p.1 with
  |false=>
   have hb':b≠p.1:=by simpa using hb
   simp only[cond_false,zao2];rw[zbc6 a b v l];cases e:a==p.1 with
   |false=>rfl
   |true=>
    have e':a=p.1:=by simpa using e
    simp only[cond_true];exact(cL λ q:a=b=>hb' (q▸e')).symm
  |true=>
   have hb':b=p.1:=by simpa using hb
   simp only[cond_true,zao2];cases e:a==b with
   |false=>rw[cL (by simpa using e),<-hb',e];rfl
   |true=>rw[cQ (by simpa using e)];rfl
def zo9(W:aA)(P:List aF)(s:Nat):Option Bool:=
 (zr8 W).bind λ v1=>(zg8 (zY4 ((s:Nat):Int) P v1) (0,[])).bind λ z=>(zI1 W z).bind λ v2=>
  bif decide (v2.2=0)then(zl5 v2.1).bind λ v3=>some (decide ((v3.2.length:Int)=0))else none
structure Setup (n g:Nat) (W:aA) (v2:(List aF)×(List aF)) (opts:List aI) (c:Nat->Int):Prop where
 n8:n<=8
 gn:g<=n
 ol:opts.length=n
 oc:∀i,i<n->(opts.getD i aI.zero).cost=c i
 cr:∀i,0<=c i/\c i<=1000
 bit:∀i,i<n->zk4 v2.2 (opts.getD i aI.zero).aZ=some ((2^i:Nat):Int)
 mask:∀s,s<2^n->zg8 (zr0 opts v2 (idx s)) (0,0)=some ((s:Nat):Int)
 hope:∀s,s<2^n->pc s<=g->zo9 W v2.2 s=some (decide (pc s=g))
 solv:∀s,s<2^n->pc s=g->zc4 W opts (idx s)=some true
def zbw1(n g:Nat)(l:List (Int×Bool)):Prop:=∀(t:Nat) b,zao2 ((t:Nat):Int) l=some b->t<2^n->pc t<=g->b=decide (pc t=g)
section
variable {n g:Nat} {W:aA} {v2:(List aF)×(List aF)} {opts:List aI} {c:Nat→Int}
theorem zci7(S:Setup n g W v2 opts c){l:List (Int×Bool)}(hl:zbw1 n g l){s:Nat}(hs:s<2^n)(hg:pc s<=g):
  ∃l',zE8 ((s:Nat):Int) W v2.2 l=some (decide (pc s=g),W,v2.2,l')/\zbw1 n g l':=by
 cases hm:zao2 ((s:Nat):Int) l with
 |some b=>have hb:=hl s b hm hs hg;refine⟨l,?_,hl⟩;unfold zE8;simp only[hm,Option.isSome_some,dS,cG,cV,Option.getD_some,hb]
 |none=>
  have hh:=S.hope s hs hg;unfold zo9 at hh;obtain⟨v1,h1,hh⟩:=dD.1 hh;obtain⟨z,h2,hh⟩:=dD.1 hh;obtain⟨w2,h3,hh⟩:=dD.1 hh
  by_cases e:w2.2=0
  .rw[fX e,cond_true]at hh;obtain⟨w3,h4,hh⟩:=dD.1 hh;have hh:=dP hh;refine⟨zaP0 ((s:Nat):Int) (decide (pc s=g)) l,?_,λ t b ht htn htg=>?_⟩
   .unfold zE8 zO9;simp only[hm,Option.isSome_none,fW,dM,h1,h2,h3,h4,Option.bind_some,fX e,hh]
   .rw[zbc6]at ht
    by_cases q:((t:Nat):Int)=((s:Nat):Int)
    .rw[cQ q]at ht;cases ht;have:t=s:=by omega
     rw[this]
    .rw[cL q]at ht;exact hl t b ht htn htg
  .rw[iG e,cond_false]at hh;cases hh
theorem zcA0(S:Setup n g W v2 opts c)(s:Nat):0<=tot c s/\tot c s<=8000:=by
 unfold tot;have h:∀l:List Nat,0<=((l.filter λ i=>s.testBit i).map c).sum/\((l.filter λ i=>s.testBit i).map c).sum<=1000*l.length:=by
  intro l;induction l with
  |nil=>simp
  |cons a l ih=>
   have:=S.cr a;simp only[gZ];split
   .simp;omega
   .simp;omega
 have:=h (List.range 8)
 simpa using this
theorem zcS2(s:Nat):s<2^bl s:=by
 unfold bl;cases h:s==0 with
 |true=>simp at h;subst h;decide
 |false=>exact Nat.lt_log2_self
theorem zcn7{s n:Nat}(h:s<2^n):bl s<=n:=by
 unfold bl;cases e:s==0 with
 |true=>exact eQ _
 |false=>exact(Nat.log2_lt (by simpa using e)).2 h
theorem two8{n:Nat}(h:n<=8):2^n<=256:=fY (by decide) h
def cand(c:Nat->Int)(s:Nat):aD:=⟨tot c s,((s:Nat):Int)⟩
theorem zci8(S:Setup n g W v2 opts c){s:Nat}(hs:s<2^n)(h0:List aD):∀m i (h:List aD),i+m=n->bl s<=i->h.length+m<=999->HP h.length h->
  ∃h',zg8 (zH0 opts v2 (cand c s,h0) ((s:Nat):Int)) (((i:Nat):Int),h)=some h'/\HP h'.length h'/\h'.Perm (h++(List.range' i m).map λ j=>cand c (s+2^j)):=by
 intro m;have h256:=two8 S.n8;induction m with
 |zero=>
  intro i h hi hb hl hH;refine⟨h,?_,hH,by simp⟩;rw[zt6];unfold zH0;have:decide (((i:Nat):Int)<(opts.length:Int))=false:=by rw[S.ol];simp;omega
  simp only[this,cG,cV]
 |succ m ih=>
  intro i h hi hb hl hH;have hin:i<n:=by omega
  have K:=zbw0 (s:=s) (i:=i) (by omega) (by have:=S.n8;omega) hb;obtain⟨h1,p1,p2,p3⟩:=zci2 (cand c (s+2^i)) h (by omega) hH;have hlen:h1.length=h.length+1:=by rw[p3.length_eq];simp
  obtain⟨h',q1,q2,q3⟩:=ih (i+1) h1 (by omega) (by omega) (by omega) p2;refine⟨h',?_,q2,q3.trans ?_⟩
  .rw[zt6];have e:zH0 opts v2 (cand c s,h0) ((s:Nat):Int) (((i:Nat):Int),h)=some (.inl (((i+1:Nat):Int),h1)):=by
    have b1:=zcA0 S s;have b2:=S.cr i;have hc:(⟨(IntKind.i64.wrap ((cand c s).cost+(opts.getD i aI.zero).cost)),(zn0 .or .u64 (cand c s).set (IntKind.u64.wrap (1*2^(Nat.min i IntKind.u64.bits))))⟩:aD)=cand c (s+2^i):=by rw[S.oc i hin];unfold cand;simp only;rw[K.or,w64 (by omega),zci4 c (by omega) (by have:=S.n8;omega) hb]
    have hw:IntKind.i64.wrap ((i:Int)+1)=((i+1:Nat):Int):=by rw[w64 (by have:=S.n8;omega)];omega
    unfold zH0;have d1:decide (((i:Nat):Int)<(opts.length:Int))=true:=by rw[S.ol];simp;omega
    rw[cQ d1,zw6 (by rw[S.ol];omega)];simp only[Int.toNat_natCast];rw[S.bit i hin];simp only[Option.bind_some];rw[K.an,cQ (by simp),zw6 (by rw[S.ol];omega),zw6 (by omega),hc,p1];simp only[Option.bind_some,hw]
   rw[e];exact q1
  .rw[fP,dI];refine(p3.append_right _).trans ?_;rw[dW];exact .refl _
theorem zbC9{α:Type}(f:α->Nat){l l':List α}(h:l.Perm l'):(l.map f).sum=(l'.map f).sum:=by
 induction h with
 |nil=>rfl
 |cons x _ ih=>simp[ih]
 |swap x y l=>simp;omega
 |trans _ _ h1 h2=>exact h1.trans h2
def msr(n:Nat)(l:List aD):Nat:=(l.map λ x=>2^(n-bl x.set.toNat)).sum
theorem zbf4(n:Nat):∀l:List aD,l.length<=msr n l
 |[]=>cU _
 |a::l=>by have ih:=zbf4 n l;have:0<2^(n-bl a.set.toNat):=gK _;simp only[msr,dI,List.sum_cons,List.length_cons]at ih⊢;omega
theorem zbD0(c:Nat->Int){n s:Nat}(hn:n<=8)(hs:s<2^n):∀m i,i+m=n->bl s<=i->msr n ((List.range' i m).map λ j=>cand c (s+2^j))+1=2^m
 |0,i,_,_=>rfl
 |m+1,i,hi,hb=>by
  have h256:=two8 hn;have ih:=zbD0 c hn hs m (i+1) (by omega) (by omega);have K:=zbw0 (s:=s) (i:=i) (by omega) (by omega) hb;simp only[msr,fP,dI,List.sum_cons,cand,Int.toNat_natCast,K.bl]at ih⊢;have:n-(i+1)=m:=by omega
  rw[this,Nat.pow_succ];omega
def InH(n g:Nat)(c:Nat->Int)(x:aD):Prop:=∃s,s<2^n/\pc s<=g/\x=cand c s
theorem zbD1:∀g,g<=8->pc (2^g-1)=g:=by decide
theorem zcA1(S:Setup n g W v2 opts c):∀(M:Nat) (h:List aD) (l:List (Int×Bool)),msr n h<=M->M<=256->HP h.length h->(∀x∈h,InH n g c x)->zbw1 n g l->(∀t,t<2^n->pc t=g->∃s,cand c s∈h/\s<2^n/\anc s t=true)->
  ∃V,V<2^n/\pc V=g/\(∀t,t<2^n->pc t=g->tot c V<=tot c t)/\zg8 (zM7 W opts v2) (W,v2.2,l,h)=some (.inr (⟨idx V,tot c V⟩,0)):=by
 have h256:=two8 S.n8;have hn8:=S.n8;intro M;induction M with
 |zero=>
  intro h l hM _ _ _ _ hA;have h0:h.length=0:=by have:=zbf4 n h;omega
  have:h=[]:=fO.1 h0;subst this;obtain⟨s,hs,_⟩:=hA (2^g-1) (by
   have:2^g<=2^n:=fY (by decide) S.gn;have:=gK g;omega) (zbD1 g (by have:=S.gn;omega))
  cases hs
 |succ M ih=>
  intro h l hM h1 hH hI hC hA;have hpos:0<h.length:=by
   obtain⟨s,hs,_⟩:=hA (2^g-1) (by
    have:2^g<=2^n:=fY (by decide) S.gn;have:=gK g;omega) (zbD1 g (by have:=S.gn;omega))
   exact List.length_pos_of_mem hs
  have hlen:=zbf4 n h;obtain⟨h',p1,p2,p3⟩:=zcz8 h hpos (by omega) hH;obtain⟨s,hs,hsg,hx⟩:=hI (gz h 0) (p3.subset gL);have hle:∀y∈h,(cand c s).cost<=y.cost:=λ y hy=>hx▸hH.least hy;rw[hx]at p1 p3;obtain⟨l',q1,q2⟩:=zci7 S hC hs hsg;have d0:decide (0<zG3 h)=true:=by unfold zG3;simp;omega
  rw[zt6];have e1:zM7 W opts v2 (W,v2.2,l,h)=zz6 W opts v2 (W,v2.2,l,h) (cand c s,h') (idx s) ((s:Nat):Int):=by unfold zM7;simp only[d0,dM,p1,Option.bind_some];rw[show cand c s=⟨tot c s,((s:Nat):Int)⟩from rfl,zbI6 _ s (by omega)];simp only[Option.bind_some,S.mask s hs]
  rw[e1]
  by_cases hg:pc s=g
  .refine⟨s,hs,hg,λ t ht htg=>?_,?_⟩
   .obtain⟨r,r1,r2,r3⟩:=hA t ht htg;exact Int.le_trans (hle _ r1) (zci6 (λ i=>(S.cr i).1) r3)
   .have e2:zz6 W opts v2 (W,v2.2,l,h) (cand c s,h') (idx s) ((s:Nat):Int)=some (.inr (.inr (⟨idx s,tot c s⟩,0))):=by
     unfold zz6;simp only[q1,Option.bind_some,fX hg,dM,S.solv s hs hg,Bool.and_self];rfl
    rw[e2]
  .have hbn:=zcn7 hs;have hM':msr n h=2^(n-bl s)+msr n h':=by
    have:=zbC9 (λ x:aD=>2^(n-bl x.set.toNat)) p3;unfold msr;rw[<-this,dI,List.sum_cons];simp[cand]
   have hk:=zbD0 c hn8 hs (n-bl s) (bl s) (by omega) (cU _);have hl':h'.length<=256:=by have:=zbf4 n h';omega
   obtain⟨h2,r1,r2,r3⟩:=zci8 S hs h' (n-bl s) (bl s) h' (by omega) (cU _) (by omega) p2;have e2:zz6 W opts v2 (W,v2.2,l,h) (cand c s,h') (idx s) ((s:Nat):Int)=some (.inl (W,v2.2,l',h2)):=by unfold zz6 zT3;have hs':(cand c s).set=((s:Nat):Int):=rfl;simp only[q1,Option.bind_some,iG hg,cG,cV,Bool.and_self,hs',zcz9 s (by omega),r1]
   rw[e2];have hm2:msr n h2=msr n h'+msr n ((List.range' (bl s) (n-bl s)).map λ j=>cand c (s+2^j)):=by have:=zbC9 (λ x:aD=>2^(n-bl x.set.toNat)) r3;unfold msr;rw[this,eZ,List.sum_append]
   have hkid:∀j,bl s<=j->j<n->s+2^j<2^n/\pc (s+2^j)<=g:=λ j h1 h2=>by have K:=zbw0 (s:=s) (i:=j) (by omega) (by omega) h1;have hx:=zcS2 (s+2^j);rw[K.bl]at hx;have:2^(j+1)<=2^n:=fY (by decide) (by omega);have:=K.pc;exact⟨by omega,by omega⟩
   refine ih h2 l' (by omega) (by omega) r2 (λ x hx=>?_) q2 (λ t ht htg=>?_)
   .rcases dV.1 (r3.subset hx)with hx|hx
    .exact hI x (p3.subset (fB _ hx))
    .obtain⟨j,hj,rfl⟩:=cS.1 hx;rw[iQ]at hj;have:=hkid j hj.1 (by omega);exact⟨_,this.1,this.2,rfl⟩
   .obtain⟨r,u1,u2,u3⟩:=hA t ht htg;rcases dB.1 (p3.symm.subset u1)with hy|hy
    .have hrs:r=s:=by
      have:((r:Nat):Int)=((s:Nat):Int):=dA aD.set hy;omega
     subst hrs;rcases zci5 r (by omega) t (by omega) u3 with rfl|⟨i,i1,i2,i3⟩
     .exact absurd htg hg
     .have hin:i<n:=by have:=zcn7 ht;omega
      refine⟨r+2^i,r3.symm.subset (dL _ (cS.2 ⟨i,?_,rfl⟩)),(hkid i i1 hin).1,i3⟩;rw[iQ];omega
    .exact⟨r,r3.symm.subset (dN _ hy),u2,u3⟩
theorem zbS8(S:Setup n g W v2 opts c)(hV:zI0 W opts=some true)(hR:zl5 W=some v2)(h0:v2.2.length≠0):
  ∃V,V<2^n/\pc V=g/\(∀t,t<2^n->pc t=g->tot c V<=tot c t)/\zz8 W opts=some (⟨idx V,tot c V⟩,0):=by
 have hz:cand c 0=aD.zero:=rfl;obtain⟨V,h1,h2,h3,h4⟩:=zcA1 S (2^n) [cand c 0] [] (by
  have:bl 0=0:=rfl;simp[msr,cand,this]) (two8 S.n8) (λ j h1 h2=>by simp at h2;omega) (λ x hx=>by
  rw[fE]at hx;exact⟨0,gK _,eQ _,hx⟩) (λ t b h=>by cases h) (λ t ht _=>⟨0,fE.2 rfl,gK _,zcb7 t⟩)
 refine⟨V,h1,h2,h3,?_⟩;unfold zz8 zj2;have d:decide ((v2.2.length:Int)=0)=false:=by simp;simpa using h0
 simp only[hV,hR,Option.bind_some,dS,cG,cV,d];rw[show({aD.zero with}:aD)=cand c 0 from rfl,h4];rfl
end
end
noncomputable section
def want(b:Bool)(n i:Nat):Nat:=bif b then(i+1)% n else 0
def endS(b:Bool)(n:Nat)(k:Nat->Int):aM:=bif b then zG6 n true k else upS n k
def endW(b:Bool)(n:Nat):aA:=⟨(endS b n λ _=>1).aB,(ord n).map λ i=>⟨pr i,(rq (want b n i) 5).bQ,3⟩⟩
def zbc7(b:Bool)(n:Nat):Nat:=bif b then 1 else n-1
def ordA(n j:Nat):Nat:=(ord n).getD j 0
def prs(n:Nat):List aF:=(ord n).map pr
def PP(b:Bool)(n:Nat)(k:Nat->Int)(j:Nat):aH:=⟨pr (ordA n j),k (ordA n j),⟨[⟨nm (bif b then ordA n j else 0),⟨0,0⟩,⟨bif b then 5 else 3,0⟩⟩],[]⟩,true,rq (want b n (ordA n j)) 5,0,3⟩
def lowA(j:Nat):aO:=⟨nm j,⟨0,0⟩⟩
def oo(b:Bool)(n:Nat)(k:Nat->Int)(j:Nat):aI:=
 ⟨pr (ordA n j),-1,IntKind.i64.wrap (k (ordA n j)*2),bif b then(bif Nat.blt (ordA n j) (want b n (ordA n j))then[lowA (ordA n j),lowA (want b n (ordA n j))]else[lowA (want b n (ordA n j)),lowA (ordA n j)])else[lowA 0]⟩
def opts(b:Bool)(n:Nat)(k:Nat->Int):List aI:=(List.range n).map (oo b n k)
structure Facts (b:Bool) (n:Nat):Prop where
 of:∀k,zo4 (ers (endS b n k))=some (endW b n)
 red:zl5 (endW b n)=some ([],prs n)
 find:∀k,(List.range n).map (λ j=>zp9 (endS b n k) (pr (ordA n j)))=(List.range n).map λ j=>some (PP b n k j,true)
 opt:∀k,(List.range n).map (λ j=>(zi6 (PP b n k j) 1 (-1),zi4 (PP b n k j).bH,zk7 (PP b n k j).aR,rvK (oo b n k j)))=(List.range n).map λ j=>(some (oo b n k j),some true,some true,some true)
 prc:(List.range n).map (λ j=>(zj7 (pr (ordA n j)),ze2 (prs n) (pr (ordA n j)),zk4 (prs n) (pr (ordA n j))))=(List.range n).map λ j=>(true,some true,some ((2^j:Nat):Int))
 wv:zk3 (endW b n)=some true
 mask:∀k,(List.range (2^n)).map (λ s=>zg8 (zr0 (opts b n k) ([],prs n) (idx s)) (0,0))=(List.range (2^n)).map λ s=>some ((s:Nat):Int)
 hope:∀s,s<2^n->pc s<=zbc7 b n->zo9 (endW b n) (prs n) s=some (decide (pc s=zbc7 b n))
 solv:∀s,s<2^n->pc s=zbc7 b n->zc4 (endW b n) (opts b n λ _=>1) (idx s)=some true
end
noncomputable section
def c1(o:aI):aI:={o with cost:=1}
theorem zcb9(W:aA)(o:aI)(h:1<=o.cost/\o.cost<=1000):zy2 W o=zy2 W (c1 o):=by unfold zy2;rw[zcb6 o h,zcb6 (c1 o) ⟨iC _,by show(1:Int)<=1000;omega⟩];rfl
theorem zci9(l:List aI)(i:Nat)(h:i<l.length):(l.map c1).getD i aI.zero=c1 (l.getD i aI.zero):=by simp[cK,h]
theorem zbr3(W:aA)(l:List aI)(x:List Int)(h:∀o∈l,1<=o.cost/\o.cost<=1000):zc4 W l x=zc4 W (l.map c1) x:=by
 have e:zM6 l x=zM6 (l.map c1) x:=by
  funext g;unfold zM6;rw[eA];split
  .refine zaD1 λ hg=>zaD1 λ hi=>?_;have hlt:=zaD2 hi;rw[zci9 _ _ hlt,zcb9 _ _ (h _ (by
    rw[cK,cJ hlt,Option.getD_some];exact gX _))]
   rfl
  .rfl
 unfold zc4;rw[e]
section
variable {b:Bool} {n:Nat} {k:Nat→Int}
theorem zcc0(hk:∀i,inC (k i))(i:Nat):IntKind.i64.wrap (k i*2)=k i*2:=by obtain⟨h1,h2⟩:=hk i;exact w64 (by omega)
theorem zba2(hk:∀i,inC (k i)):∀o∈opts b n k,1<=o.cost/\o.cost<=1000:=λ o ho=>by obtain⟨j,_,rfl⟩:=cS.1 ho;have e:(oo b n k j).cost=k (ordA n j)*2:=zcc0 hk _;obtain⟨h1,h2⟩:=hk (ordA n j);omega
theorem zcj0(k k':Nat->Int):(opts b n k).map c1=(opts b n k').map c1:=by unfold opts;rw[gS,gS];rfl
theorem zbI7(hk:∀i,inC (k i))(x:List Int)(h:zc4 (endW b n) (opts b n λ _=>1) x=some true):zc4 (endW b n) (opts b n k) x=some true:=by rw[zbr3 _ _ _ (zba2 hk),zcj0 k (λ _=>1),<-zbr3 _ _ _ (zba2 λ _=>⟨by omega,by omega⟩)];exact h
theorem zbN2{j:Nat}(h:j<n):(opts b n k).getD j aI.zero=oo b n k j:=by simp[opts,cK,h]
def cc(n:Nat)(k:Nat->Int)(p:Nat):Int:=k (ordA n p)*2
theorem zcc1(F:Facts b n)(hn:2<=n/\n<=8)(hk:∀i,inC (k i)):Setup n (zbc7 b n) (endW b n) ([],prs n) (opts b n k) (cc n k) where
 n8:=hn.2
 gn:=by unfold zbc7;cases b<;>simp<;>omega
 ol:=by simp[opts]
 oc:=λ i hi=>by rw[zbN2 hi];exact zcc0 hk _
 cr:=λ i=>by obtain⟨h1,h2⟩:=hk (ordA n i);unfold cc;omega
 bit:=λ i hi=>by rw[zbN2 hi];have:=zab6 F.prc i hi;simp only[fT]at this;exact this.2.2
 mask:=λ s hs=>zab6 (F.mask k) s hs
 hope:=λ s hs hg=>F.hope s hs hg
 solv:=λ s hs hg=>zbI7 hk _ (F.solv s hs hg)
theorem zbf5(hn:n<=8):(prs n).length=n:=by
 have:∀n,n<=8->(ord n).length=n:=by decide
 unfold prs;rw[eA,this n hn]
theorem zcA2(hn:n<=8){j:Nat}(h:j<(prs n).length):(prs n)[j]=pr (ordA n j):=by
 have hj:j<(ord n).length:=by simpa [prs]using h
 simp[prs,ordA,cK,hj]
theorem zbr4(F:Facts b n)(hk:∀i,inC (k i)){j:Nat}(h:j<n):zh8 (oo b n k j)=some true:=by have h1:=zab6 (F.opt k) j h;simp only[fT]at h1;rw[zcb6 _ (zba2 hk _ (cS.2 ⟨j,dT.2 h,rfl⟩))];exact h1.2.2.2
theorem zbc8(F:Facts b n)(hn:2<=n/\n<=8)(hk:∀i,inC (k i)):zy1 (endS b n k) (prs n)=some (opts b n k):=by
 have hl:=zbf5 hn.2;have:=zbI2 (endS b n k) (PP b n k) (oo b n k) (prs n) (by omega) (λ j h=>by
  rw[zcA2 hn.2 h];exact zab6 (F.find k) j (by omega)) (λ j h=>by
  have hj:j<n:=by omega
  have h1:=zab6 (F.opt k) j hj;have h2:=zab6 F.prc j hj;simp only[fT]at h1 h2;exact zbC8 (PP b n k j) (oo b n k j) (hk _) h2.1 h1.2.1 rfl h1.2.2.1 rfl h1.1 (zbr4 F hk hj))
 rw[this,hl];rfl
theorem zbI8(F:Facts b n)(hn:2<=n/\n<=8)(hk:∀i,inC (k i)):
  ∃V,V<2^n/\pc V=zbc7 b n/\(∀t,t<2^n->pc t=zbc7 b n->tot (cc n k) V<=tot (cc n k) t)/\zz8 (endW b n) (opts b n k)=some (⟨idx V,tot (cc n k) V⟩,0):=by
 refine zbS8 (zcc1 F hn hk) (zbv8 _ _ ([],prs n) F.wv F.red (by simp[opts];omega) λ o ho=>?_) F.red (by show(prs n).length≠0;rw[zbf5 hn.2];omega);obtain⟨j,hj,rfl⟩:=cS.1 ho;have hj:=dT.1 hj;have h2:=zab6 F.prc j hj;simp only[fT]at h2;exact⟨zbr4 F hk hj,h2.2.1⟩
end
def kap(a:List Int)(i:Nat):Int:=(zq5 a (i:Int)).getD 1
theorem zbm2(a:List Int)(i:Nat):zq5 a (i:Int)=some (kap a i)/\inC (kap a i):=by
 have h:∃x,zq5 a (i:Int)=some x/\inC x:=by
  unfold zq5
  by_cases hl:(a.length:Int)<=(i:Int)
  .rw[cQ (by simpa using hl)];exact⟨1,rfl,by unfold inC;omega⟩
  .rw[cL (by simpa using hl),zw6 (by omega)];generalize a.getD (i:Int).toNat 0=y;unfold zq7;have h1:=Int.tmod_lt_of_pos y (show(0:Int)<100 by omega);have h2:-100<y.tmod 100:=by
    have:=Int.tmod_lt_of_pos (-y) (show(0:Int)<100 by omega);rw[Int.neg_tmod]at this;omega
   simp only[show decide ((100:Int)<1)=false from rfl,cG,cV];rw[zw6 (by omega)]
   by_cases hneg:y.tmod 100<0
   .rw[cQ (by simpa using hneg),Option.bind_some,w64 (x:=y.tmod 100+100) (by omega),w64 (by omega)];exact⟨_,rfl,by unfold inC;omega⟩
   .rw[cL (by simpa using hneg),Option.bind_some,w64 (by omega)];exact⟨_,rfl,by unfold inC;omega⟩
 obtain⟨x,h1,h2⟩:=h;unfold kap;rw[h1];exact⟨rfl,h2⟩
end
noncomputable section
theorem zaX1:zP0=some true:=by kernel_rfl
theorem zbN3:∀i,i<8->zq0 ((i:Nat):Int)=some (pr i):=zab6 (f:=λ i=>zq0 ((i:Nat):Int)) (g:=λ i=>some (pr i)) (by kernel_rfl)
def askc(i j:Nat)(m:Int):aX:={aX.zero with kind:=2,aZ:=pr i,aR:=rq j m}
theorem zcj1:∀i,i<8->zl3 ((i:Nat):Int) (zw1 (zG7 ((i:Nat):Int)) 5)=some (askc i i 5):=
 zab6 (f:=λ i=>zl3 ((i:Nat):Int) (zw1 (zG7 ((i:Nat):Int)) 5)) (g:=λ i=>some (askc i i 5)) (by kernel_rfl)
theorem zba3(i:Nat)(m:Int)(f:Nat->Nat):asks (i+1) m f=asks i m f++[askc i (f i) m]:=by unfold asks;rw[iY,eZ];rfl
theorem zau4(i:Nat)(m:Int)(f:Nat->Nat):(asks i m f).length=i:=by simp[asks]
theorem zbI9(i:Nat)(k:Nat->Int):zR3 (i+1) k=zR3 i k++[{aX.zero with kind:=1,aZ:=pr i,n:=k i}]:=by unfold zR3;rw[iY,eZ];rfl
theorem zau5(i:Nat)(h:i<1000):IntKind.i64.wrap ((i:Int)+1)=((i+1:Nat):Int):=by rw[w64 (by omega)];omega
theorem zbm3(n:Nat)(hn:n<=8)(a:List Int):∀m i,i+m=n->zg8 (zR2 (n:Int) a) ((i:Int),zR3 i (kap a))=some (zR3 n (kap a))
 |0,i,h=>by
  rw[zt6];unfold zR2;have:decide ((i:Int)<(n:Int))=false:=by simp;omega
  simp only[this,cG,cV];rw[show i=n by omega]
 |m+1,i,h=>by
  rw[zt6];have e:zR2 (n:Int) a ((i:Int),zR3 i (kap a))=some (.inl (((i+1:Nat):Int),zR3 (i+1) (kap a))):=by
   unfold zR2;have h1:decide ((i:Int)<(n:Int))=true:=by simp;omega
   rw[cQ h1,zbN3 i (by omega),Option.bind_some,(zbm2 a i).1,Option.bind_some,zw6 (by simp[zR3];omega),zau5 i (by omega),zbI9]
  rw[e];exact zbm3 n hn a m (i+1) (by omega)
theorem zcj2{n:Nat}{k:Nat->Int}(hk:∀i,inC (k i)):∀q∈grow n k,∀y∈q,inC y:=λ q hq y hy=>by obtain⟨j,_,rfl⟩:=cS.1 hq;obtain⟨i,_,rfl⟩:=cS.1 hy;exact hk i
theorem zbw2{m n:Nat}{k:Nat->Int}(hk:∀i,inC (k i)):∀q∈same m n k,∀y∈q,inC y:=λ q hq y hy=>by rw[List.eq_of_mem_replicate hq]at hy;obtain⟨i,_,rfl⟩:=cS.1 hy;exact hk i
theorem zaN2{n:Nat}{m:Int}{f:Nat->Nat}:∀x∈asks n m f,x.kind=1->inC x.n:=λ x hx h=>by obtain⟨i,_,rfl⟩:=cS.1 hx;exact absurd h (by show¬(2:Int)=1;omega)
theorem zbD2{n l:Nat}(hn:n<=8)(a:List Int){L:List aG}(hk:∀i,inC (kap a i))(hN:zq8 L=some (bS l 0 (kap a),0))(hO:runK (zR3 n (kap a)) (bS l 0 (kap a))=some (bS l n (kap a),grow n (kap a))):
  zL6 L (n:Int) a=some (bS l n (kap a),true):=by
 unfold zL6;rw[hN,Option.bind_some];have:=zbm3 n hn a n 0 (by omega);rw[show((0:Int),([]:List aX))=(((0:Nat):Int),zR3 0 (kap a))from rfl,this,Option.bind_some];unfold zau1;rw[zbv7 hO (by simp[zR3];omega) (zcj2 hk) λ x hx h=>?_]
 .rfl
 .obtain⟨i,_,rfl⟩:=cS.1 hx;exact hk i
def mn(k:Nat->Int):Nat->Int
 |0=>1000
 |i+1=>if k i<mn k i then k i else mn k i
theorem zcn8(k:Nat->Int):∀n i,i<n->mn k n<=k i
 |n+1,i,h=>by
  rw[show mn k (n+1)=if k n<mn k n then k n else mn k n from rfl]
  by_cases e:i=n
  .subst e;split<;>omega
  .have:=zcn8 k n i (by omega);split<;>omega
theorem zcc2{k:Nat->Int}(hk:∀i,inC (k i)):∀n,0<n->∃i,i<n/\mn k n=k i
 |0,h=>absurd h (by omega)
 |1,_=>⟨0,by omega,by
  obtain⟨h1,h2⟩:=hk 0;rw[show mn k 1=if k 0<(1000:Int)then k 0 else 1000 from rfl,cQ (by omega)]⟩
 |n+2,_=>by
  obtain⟨i,h1,h2⟩:=zcc2 hk (n+1) (by omega);rw[show mn k (n+2)=if k (n+1)<mn k (n+1)then k (n+1)else mn k (n+1)from rfl]
  by_cases e:k (n+1)<mn k (n+1)
  .exact⟨n+1,by omega,by rw[cQ e]⟩
  .exact⟨i,by omega,by rw[cL e];exact h2⟩
theorem zbr5(n:Nat)(hn:n<=8)(a:List Int):∀m i,i+m=n->zg8 (zL9 (n:Int) a) (mn (kap a) i,(i:Int),asks i 5 id)=some (mn (kap a) n,asks n 5 id)
 |0,i,h=>by
  rw[zt6];unfold zL9;have:decide ((i:Int)<(n:Int))=false:=by simp;omega
  simp only[this,cG,cV];rw[show i=n by omega]
 |m+1,i,h=>by
  rw[zt6];have e:zL9 (n:Int) a (mn (kap a) i,(i:Int),asks i 5 id)=some (.inl (mn (kap a) (i+1),((i+1:Nat):Int),asks (i+1) 5 id)):=by
   unfold zL9;have h1:decide ((i:Int)<(n:Int))=true:=by simp;omega
   simp only[h1,dM];rw[zcj1 i (by omega),Option.bind_some,zw6 (by rw[zau4];omega),(zbm2 a i).1,Option.bind_some,zau5 i (by omega),zba3];rfl
  rw[e];exact zbr5 n hn a m (i+1) (by omega)
structure RingF (n:Nat):Prop where
 lck:∀k,(zj8 (n:Int)).bind zq8=some (bS n 0 k,0)
 opn:∀k,runK (zR3 n k) (bS n 0 k)=some (bS n n k,grow n k)
 l1:zg8 (zy3 (n:Int)) (0,asks n 5 id)=some (asks n 5 id++asks n 5 λ i=>(i+1)% n)
 ra:∀k,runK ((asks n 5 id++asks n 5 λ i=>(i+1)% n).take (2*n-1)) (bS n n k)=some (zG6 n false k,same (2*n-1) n k)
 rb:∀k,runK ((asks n 5 id++asks n 5 λ i=>(i+1)% n).drop (2*n-1)) (zG6 n false k)=some (zG6 n true k,same 1 n k)
 s0:∀k,zu7 (ers (zG6 n false k))=some []
 cor:(zv8 (endW true n) (pr 0)).map (λ r=>((r.1.length:Int),r.2))=some ((n:Int),0)
theorem zbm4(n:Nat)(z:Bool){k:Nat->Int}(hk:∀i,inC (k i)):∀y∈zaW8 (zG6 n z k),inC y:=λ y hy=>by simp only[zaW8,zG6,gS,cS]at hy;obtain⟨i,_,rfl⟩:=hy;simp only[Function.comp];cases z||!(i+1==n)<;>exact hk i
theorem zcc3(n:Nat){k:Nat->Int}(hk:∀i,inC (k i)):∀y∈zaW8 (upS n k),inC y:=λ y hy=>by simp only[zaW8,upS,gS,cS]at hy;obtain⟨i,_,rfl⟩:=hy;exact hk i
theorem zbS9(b:Bool)(n:Nat){k:Nat->Int}(hk:∀i,inC (k i)):∀y∈zaW8 (endS b n k),inC y:=by
 cases b
 .exact zcc3 n hk
 .exact zbm4 n true hk
theorem zbJ0{b:Bool}{n:Nat}(F:Facts b n){k:Nat->Int}(hk:∀i,inC (k i)):zo4 (endS b n k)=some (endW b n):=by rw[zcb5 _ (zbS9 b n hk)];exact F.of k
theorem zbr6{b:Bool}{n:Nat}(F:Facts b n){k:Nat->Int}(hk:∀i,inC (k i)):zu7 (endS b n k)=some (prs n):=by unfold zu7;rw[zbJ0 F hk,Option.bind_some,F.red];rfl
theorem zbN4:∀n,n<=8->∀i,i<n->∃p,p<n/\ordA n p=i:=by decide
theorem zbN5:∀n,n<=8->∀p,p<n->ordA n p<n:=by decide
theorem zbN6(s:Nat):(idx s).length=pc s:=by simp[idx,pc]
theorem zaM2:∀s,s<256->pc s=1->∃p,s=2^p:=by have h:=zaM1 (p:=λ s=>!(pc s==1)||(List.range 8).any λ p=>s==2^p) (n:=256) (by kernel_rfl);intro s hs h1;have:=h s hs;rw[h1]at this;simp only[gC,dS,fU,gY,cY]at this;obtain⟨p,_,hp⟩:=this;exact⟨p,hp⟩
theorem zaT2:∀s,s<256->pc s<=1->s=0\/∃p,s=2^p:=by
 have h:=zaM1 (p:=λ s=>!(Nat.ble (pc s) 1)||s==0||(List.range 8).any λ p=>s==2^p) (n:=256) (by kernel_rfl);intro s hs h1;have:=h s hs;rw[dU h1]at this;simp only[dS,fU,iV,gY,cY]at this;rcases this with h|⟨p,_,hp⟩
 .exact .inl h
 .exact .inr ⟨p,hp⟩
theorem zak1{α:Type}{f g:Nat->α}{q m:Nat}(h:∀c,c<q->(List.range' (m*c) m).map f=(List.range' (m*c) m).map g):∀s,s<m*q->f s=g s:=λ s hs=>by
 have hm:0<m:=Nat.pos_of_ne_zero λ e=>by subst e;simp at hs
 have hc:s/m<q:=Nat.div_lt_of_lt_mul hs;refine List.map_inj_left.1 (h (s/m) hc) s (iQ.2 ?_);have h1:=Nat.div_add_mod s m;have h2:=gU s hm;constructor<;>omega
theorem zcA3:∀p,p<8->pc (2^p)=1:=by decide
theorem zbw3(c:Nat->Int):∀p,p<8->tot c (2^p)=c p:=by
 have h:∀p,p<8->((List.range 8).filter λ i=>(2^p).testBit i)=[p]:=by decide
 intro p hp;unfold tot;rw[h p hp];simp
set_option maxHeartbeats 2000000 in
theorem zak2{n:Nat}(hn:2<=n/\n<=8)(F:Facts true n)(R:RingF n)(a:List Int):zP6 (n:Int) a=some true:=by
 have hk:∀i,inC (kap a i):=λ i=>(zbm2 a i).2;obtain⟨L,hL,hN⟩:=dD.1 (R.lck (kap a));have hB:=zbD2 hn.2 a hk hN (R.opn _);have d0:(decide ((n:Int)<2)||decide ((8:Int)<(n:Int)))=false:=by simp;omega
 have w2:IntKind.i64.wrap (IntKind.i64.wrap (2*(n:Int))-1)=((2*n-1:Nat):Int):=by rw[w64 (x:=2*(n:Int)) (by omega),w64 (by omega)];omega
 have hC:(asks n 5 id++asks n 5 λ i=>(i+1)% n).length=2*n:=by simp[zau4];omega
 have hkd:∀x∈asks n 5 id++asks n 5 λ i=>(i+1)% n,x.kind=1->inC x.n:=λ x hx=>by
  rcases dV.1 hx with h|h
  .exact zaN2 x h
  .exact zaN2 x h
 have hda:=zbv7 (R.ra (kap a)) (by rw[dR];omega) (zbw2 hk) λ x hx=>hkd x (List.mem_of_mem_take hx);have hdb:=zbv7 (R.rb (kap a)) (by rw[eG];omega) (zbw2 hk) λ x hx=>hkd x (List.mem_of_mem_drop hx);have hs0:zu7 (zG6 n false (kap a))=some []:=by rw[zbS7 _ (zbm4 n false hk)];exact R.s0 _
 have he:endS true n (kap a)=zG6 n true (kap a):=rfl;have hof:=zbJ0 F hk;have hst:=zbr6 F hk;have hop:=zbc8 F hn hk;rw[he]at hof hst hop;obtain⟨V,hV1,hV2,hV3,hch⟩:=zbI8 F hn hk;obtain⟨cr,hcr,hc2⟩:=cI.1 R.cor;simp only[fT]at hc2;have h256:=two8 hn.2;obtain⟨p,rfl⟩:=zaM2 V (by omega) hV2;have hp:p<n:=(dE (by decide)).1 hV1;have hcost:tot (cc n (kap a)) (2^p)=mn (kap a) n*2:=by rw[zbw3 _ p (by omega)];obtain⟨i,hi,hmi⟩:=zcc2 hk n (by omega);obtain⟨q,hq,hqi⟩:=zbN4 n hn.2 i hi;have h1:=hV3 (2^q) (Nat.pow_lt_pow_right (by decide) hq) (zcA3 q (by omega));rw[zbw3 _ p (by omega),zbw3 _ q (by omega)]at h1;have h2:=zcn8 (kap a) n (ordA n p) (zbN5 n hn.2 p hp);unfold cc at h1⊢;rw[hqi]at h1;omega
 obtain⟨mi,hmi,hme⟩:=zcc2 hk n (by omega);have hmb:=hk mi;have hw:IntKind.i64.wrap (2*mn (kap a) n)=mn (kap a) n*2:=by obtain⟨g1,g2⟩:=hmb;rw[w64 (by omega)];omega
 unfold zP6;rw[d0];simp only[cG,cV];rw[hL,Option.bind_some,hB,Option.bind_some];simp only[dS,cG,cV];have hl2:=zbr5 n hn.2 a n 0 (by omega);rw[show((1000:Int),(0:Int),([]:List aX))=(mn (kap a) 0,((0:Nat):Int),asks 0 5 id)from rfl,hl2,Option.bind_some];unfold zZ2;rw[R.l1,Option.bind_some];unfold zZ1;rw[w2,zw6 (by rw[hC];omega),Int.toNat_natCast,iI,hda,Option.bind_some];simp only[dM,hs0,Option.bind_some];have d1:(!true||!decide ((([]:List aF).length:Int)=0))=false:=rfl;rw[d1];simp only[cG,cV];rw[zw6 (by rw[hC];omega),eK (by rw[eG];omega),hdb,Option.bind_some];simp only[dS,cG,cV];rw[hof,Option.bind_some,show(0:Int)=((0:Nat):Int)from rfl,zbN3 0 (by omega),Option.bind_some,hcr,Option.bind_some,hst,Option.bind_some,hop,Option.bind_some,hch,Option.bind_some,zaX1,Option.bind_some];simp only[dM,hst,Option.bind_some,hc2.1,hc2.2,hw,hcost,zbf5 hn.2,zbN6,hV2];simp[zbc7]
end
end Ab
end Go.Proofs.YtamndckemppjdaaGreatDoor
