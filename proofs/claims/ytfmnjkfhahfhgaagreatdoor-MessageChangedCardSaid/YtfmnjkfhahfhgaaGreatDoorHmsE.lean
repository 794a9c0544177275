import Derived.Test.YtfmnjkfhahfhgaaGreatDoorWsD
import Derived.Test.YtfmnjkfhahfhgaaGreatDoorHm35
namespace Go.Proofs.YtfmnjkfhahfhgaaGreatDoor
namespace Ab
set_option linter.all false
def tF(n:Int)(H:0<=n)(O:n<2^64):IntKind.u64.wrap n=n:=by rw[IntKind.wrap_u64];omega
def cH9{x:Int}(H:0<=x)(O:x<18446744073709551616):nP .and .u64 x 127=x% 128:=bits_mask .u64 64 Om tF 7 Om x H om
def P7{x:Int}(H:0<=x)(O:x<256):nP .and .u8 x 127=x% 128:=bits_mask .u8 8 Om wraps_u8 7 Om x H om
def WR(k:IntKind)(x y:Int):nP .or k x y=nP .or k y x:=by simp only[nP,BitVec.or_comm]
def cHc{y:Int}(H:0<=y)(O:y<128):nP .or .u8 y 128=y+128:=by rw[WR];have:nP .or .u8 128 y=128+y:=bits_join .u8 8 Om wraps_u8 7 128 y Om Om Om H om om;rw[this];omega
def P8(s:Nat)(Y:s<=28){v c:Int}(O:0<=v)(K:v<2^s)(U:0<=c)(F:c<128):nP .or .u64 v (IntKind.u64.wrap (c*2^s))=v+c*2^s:=by
 have B:(2:Int)^s<=2^28:=by exact_mod_cast Nat.pow_le_pow_right Om Y
 have M:(0:Int)<2^s:=by exact_mod_cast Nat.two_pow_pos s
 have hm:c*2^s<=127*2^28:=Int.mul_le_mul om B om Om;have H:0<=c*2^s:=Int.mul_nonneg U om;rw[tF _ H om,WR];have:nP .or .u64 (c*2^s) v=c*2^s+v:=bits_join .u64 64 Om tF s _ v H (Int.mul_emod_left _ _) om O K om;rw[this];omega
def encU(n:Nat):List Int:=if n<128 then[(n:Int)]else((n% 128+128:Nat):Int)::encU (n/128)
termination_by n
decreasing_by omega
def zQ{n:Nat}(h:n<128):encU n=[(n:Int)]:=by rw[encU,cA h]
def Ds{n:Nat}(h:¬n<128):encU n=((n% 128+128:Nat):Int)::encU (n/128):=by rw[encU,bX h]
def Dt:∀(k n:Nat),n<128^(k+1)->1<=(encU n).length/\(encU n).length<=k+1
 |0,n,h=>by rw[zQ om];simp
 |k+1,n,h=>by
  by_cases c:n<128
  .rw[zQ c];simp
  .rw[Ds c];have:=Dt k (n/128) (by rw[mA]at h;omega);simp only[ym];omega
def P9:∀(n:Nat),nI (encU n):=by
 intro n;induction n using Nat.strongRecOn with
 |_ n H=>
  by_cases c:n<128
  .rw[zQ c];intro x hx;rw[dQ]at hx;omega
  .rw[Ds c];intro x hx;rcases cK.1 hx with rfl|hx
   .omega
   .exact H (n/128) om x hx
def WS:∀(k n:Nat) (l:List Int),n<128^(k+1)->k<=8->l.length+k<=4294967290->∃y O,mF tK ((n:Int),l)=some (y,O)/\O++[IntKind.u8.wrap y]=l++encU n/\O.length<=l.length+k
 |0,n,l,h,K,L=>by
  refine⟨n,l,?_,?_,by omega⟩
  .rw[mP];unfold tK;rw[bX (by simp;omega)]
  .rw[zQ om,wraps_u8 _ om om]
 |k+1,n,l,h,K,L=>by
  by_cases c:n<128
  .refine⟨n,l,?_,?_,by omega⟩
   .rw[mP];unfold tK;rw[bX (by simp;omega)]
   .rw[zQ c,wraps_u8 _ om om]
  .have U:n<18446744073709551616:=by
    have:128^(k+1+1)<=128^9:=Nat.pow_le_pow_right Om om;omega
   obtain⟨y,O,Y,B,F⟩:=WS k (n/128) (l++[((n% 128+128:Nat):Int)]) (by rw[mA]at h;omega) om (by simp;omega);refine⟨y,O,?_,?_,by simp at F;omega⟩
   .rw[mP];have H:tK ((n:Int),l)=some (.inl (((n/128:Nat):Int),l++[((n% 128+128:Nat):Int)])):=by
     unfold tK;simp only;rw[cA (by simp;omega),gdp om,cH9 om om,wraps_u8 _ om om,cHc om om];have:(n:Int).fdiv (2^7)=((n/128:Nat):Int):=by rw[Int.fdiv_eq_ediv_of_nonneg _ Om];omega
     rw[this];have:(n:Int)% 128+128=((n% 128+128:Nat):Int):=om
     rw[this]
    rw[H];exact Y
   .rw[B,Ds c,cE];rfl
def Qa{n:Nat}{l:List Int}(H:n<128^9)(K:l.length<=4294967000):tL l (n:Int)=some (l++encU n):=by obtain⟨y,Y,O,U,B⟩:=WS 8 n l H Om om;unfold tL;rw[gdp om,O,eF];unfold He;rw[gdp (by simp only;omega)];simp only[U]
def WT{n:Nat}{l:List Int}(H:n<128^9)(K:l.length<=4294967000):pW l (n:Int)=some (l++encU n):=by rw[<-Qa H K];rfl
def cHl(g:Int×List Int):Ek g=tK g:=by
 unfold Ek tK
 by_cases c:127<g.1
 .rw[cA (by simpa using c),cA (by simp;omega)]
 .rw[bX (by simpa using c),bX (by simp;omega)]
def cHm(l:List Int)(x:Int)(L:l.length<=4294967000):uQ l x=tL l x:=by
 unfold uQ tL;have hb:Ek=tK:=funext cHl;have K:l.take ((l.length:Int).toNat)=l:=by rw[lL,eU]
 have H:l.length+1<=4294967296:=om
 have O:l.length<=4294967296:=om
 rw[K,hb,gdp om,gdp H,gdp O,mP tK (x,l)]
 by_cases c:127<x
 .rw[cA (by simpa using c)];have:tK (x,l)=some (.inl (x.fdiv (2^7),l++[nP .or .u8 (IntKind.u8.wrap (nP .and .u64 x 127)) 128])):=by
   unfold tK;rw[cA (by simp;omega),gdp (by simp only;omega)]
  rw[this];rfl
 .rw[bX (by simpa using c)];have:tK (x,l)=some (.inr (x,l)):=by
   unfold tK;rw[bX (by simp;omega)]
  rw[this];show _=He (x,l);unfold He;rw[gdp H]
def WU{n:Nat}{l:List Int}(H:n<128^9)(K:l.length<=4294967000):uQ l (n:Int)=some (l++encU n):=by rw[cHm l _ K,Qa H K]
def WV{n:Nat}{l:List Int}(H:n<128^9)(K:l.length<=4294967000):pN l (n:Int)=some (l++encU n):=by rw[<-WU H K];rfl
def cHp{a rest:List Int}(ha:nI a):∀(k m i:Nat) (v:Int),i+k=4->m<128^(k+1)->a.drop i=encU m++rest->(i=0\/1<=m)->0<=v->v<2^(7*i)->
  mF (rW a) (v,(i:Int))=some (.inr (v+(m:Int)*2^(7*i),((i+(encU m).length:Nat):Int),0)):=by
 have H:∀(m i:Nat) (v:Int),i<=4->a.drop i=encU m++rest->0<=v->v<2^(7*i)->(m<128->(i=0\/1<=m)->rW a (v,(i:Int))=some (.inr (.inr (v+(m:Int)*2^(7*i),((i+1:Nat):Int),0))))/\
   (¬m<128->rW a (v,(i:Int))=some (.inl (v+((m% 128:Nat):Int)*2^(7*i),((i+1:Nat):Int)))):=by
  intro m i v hi O F h1;have M:encU m≠[]:=by rw[encU];split<;>simp
  have K:i<a.length:=by have:=dZ List.length O;rw[dS,cC]at this;have:0<(encU m).length:=gZ.2 M;omega
  have hw:IntKind.i64.wrap (7*(i:Int))=((7*i:Nat):Int):=by rw[mH om om];omega
  have x0:(IntKind.i64.wrap (7*(i:Int))).toNat=7*i:=by rw[hw];rfl
  have L:Nat.min (7*i) IntKind.u64.bits=7*i:=gK (by show 7*i<=64;omega);have Y:∀c t,a.drop i=c::t->a.getD ((i:Int).toNat) 0=c:=λ c t e=>by have:=xK a i 0 K;rw[e]at this;exact(List.cons.inj this).1.symm
  unfold rW;simp only;rw[cA (by simp;omega),bX (by simp;omega),gdp om,bX (by simp;omega),gdp om,mK i om,x0,L];constructor
  .intro c hm;have Z:=Y (m:Int) rest (by rw[O,zQ c];rfl);rw[Z,(P6 (m:Int) om om).2 om,P7 om om,tF ((m:Int)% 128) om om,P8 (7*i) om F h1 om om];have B:(m:Int)% 128=m:=om
   have h2:(decide ((m:Int)=0)&&decide ((0:Int)<(i:Int)))=false:=by rw[dI];simp;omega
   rw[B,h2];simp
  .intro c;have Z:=Y ((m% 128+128:Nat):Int) (encU (m/128)++rest) (by rw[O,Ds c];rfl);have hb:¬nP .and .u8 ((m% 128+128:Nat):Int) 128=0:=λ e=>by have:=(P6 _ om om).1 e;omega
   rw[Z,P7 om om,tF (((m% 128+128:Nat):Int)% 128) om om,P8 (7*i) om F h1 om om];have B:((m% 128+128:Nat):Int)% 128=((m% 128:Nat):Int):=om
   rw[B,cA (by simpa using hb)]
 intro k;induction k with
 |zero=>intro m i v hi hm O F U V;rw[mP,(H m i v om O U V).1 om F,zQ om];rfl
 |succ k ih=>
  intro m i v hi hm O F U V
  by_cases c:m<128
  .rw[mP,(H m i v om O U V).1 c F,zQ c];rfl
  .rw[mP,(H m i v om O U V).2 c];have hp:(2:Int)^(7*(i+1))=128*2^(7*i):=by rw[mB,Int.pow_add];omega
   have hq:(0:Int)<2^(7*i):=by exact_mod_cast Nat.two_pow_pos _
   have y0:((m% 128:Nat):Int)*2^(7*i)<=127*2^(7*i):=Int.mul_le_mul_of_nonneg_right om om;have z0:0<=((m% 128:Nat):Int)*2^(7*i):=Int.mul_nonneg om om;have:=ih (m/128) (i+1) (v+((m% 128:Nat):Int)*2^(7*i)) om (by rw[mA]at hm;omega) (by
    rw[<-eV,O,Ds c];rfl) (.inr om) om (by rw[hp];omega)
   simp only;rw[this,Ds c,hp];have e1:(m:Int)=128*((m/128:Nat):Int)+((m% 128:Nat):Int):=om
   have e2:v+((m% 128:Nat):Int)*2^(7*i)+((m/128:Nat):Int)*(128*2^(7*i))=v+(m:Int)*2^(7*i):=by rw[e1,Int.add_mul,Int.mul_assoc 128,Int.mul_left_comm];omega
   rw[e2];simp only[ym];rw[show i+1+(encU (m/128)).length=i+((encU (m/128)).length+1)by omega]
def WW{n:Nat}{rest:List Int}(H:n<128^5)(O:nI rest):sL (encU n++rest)=some ((n:Int),((encU n).length:Int),0):=by
 have hb:nI (encU n++rest):=λ x K=>by
  rcases cX.1 K with h|h
  .exact P9 n x h
  .exact O x h
 unfold sL;have:=cHp (rest:=rest) hb 4 n 0 0 rfl H rfl (.inl rfl) (gV _) Om;rw[show((0,0):Int×Int)=(0,((0:Nat):Int))from rfl,this];simp
def cHr{G X:Type}{body:G->Option (G⊕X)}(I:G->Prop)(Post:X->Prop)(h:∀g,I g->(∀O,body g=some (.inl O)->I O)/\(∀x,body g=some (.inr x)->Post x)){g:G}{x:X}(hg:I g)(K:mF body g=some x):Post x:=by
 obtain⟨n,H⟩:=yI.1 K;induction n generalizing g with
 |zero=>cases H
 |succ n U=>
  simp only[iter]at H;cases hb:body g with
  |none=>rw[hb]at H;cases H
  |some y=>
   rw[hb]at H;cases y with
   |inl O=>exact U ((h g hg).1 O hb) (yI.2 ⟨n,H⟩) H
   |inr Y=>cases H;exact(h g hg).2 _ hb
def cHs{x y:Int}(H:0<=y)(U:y<18446744073709551616):y<=nP .or .u64 x y:=by
 have e:(BitVec.ofInt 64 y).toNat=y.toNat:=by rw[BitVec.toNat_ofInt];have:y% ((2^64:Nat):Int)=y:=Int.emod_eq_of_lt H om;rw[this]
 have K:=(BitVec.ofInt 64 x|||BitVec.ofInt 64 y).isLt;have O:y.toNat<=(BitVec.ofInt 64 x|||BitVec.ofInt 64 y).toNat:=by rw[BitVec.toNat_or,e];exact Nat.right_le_or
 show y<=IntKind.u64.wrap (((BitVec.ofInt 64 x|||BitVec.ofInt 64 y).toNat:Nat):Int);rw[tF _ om om];omega
def cHt{a:List Int}(V:nI a)(i:Nat)(v:Int)(hi:i<10)(Z:i<a.length):rW a (v,(i:Int))=
  if((decide ((i:Int)=9)&&decide (1<a.getD i 0))||(decide (a.getD i 0=0)&&decide (0<(i:Int))))=true then some (.inr (.inr (0,0,6)))
  else if a.getD i 0<128 then some (.inr (.inr (nP .or .u64 v (IntKind.u64.wrap ((a.getD i 0% 128)*2^(7*i))),((i+1:Nat):Int),0)))
  else some (.inl (nP .or .u64 v (IntKind.u64.wrap ((a.getD i 0% 128)*2^(7*i))),((i+1:Nat):Int))):=by
 have O:=V.getD i;have Y:IntKind.i64.wrap (7*(i:Int))=((7*i:Nat):Int):=by rw[mH om om];omega
 have K:Nat.min (7*i) IntKind.u64.bits=7*i:=gK (by show 7*i<=64;omega);have H:=P6 (a.getD i 0) O.1 O.2;unfold rW;simp only;rw[cA (by simp;omega),bX (by simp;omega),gdp om,mK i om,Y];simp only[Qm];rw[K,P7 O.1 O.2,tF (a.getD i 0% 128) om om]
 by_cases U:(decide ((i:Int)=9)&&decide (1<a.getD i 0))=true
 .rw[cA U,U,fV,cA rfl]
 .rw[bX U,gdp om,dI.2 U,dP]
  by_cases L:a.getD i 0<128
  .rw[bX (by simp only[dB,dE,Classical.not_not];exact H.2 L),cA L]
  .rw[cA (by simp only[dB,dE];exactλ k=>L (H.1 k)),bX (by simp only[bY,cB];omega),bX L]
def PreU(a:List Int)(i v:Nat):Prop:=v<2^(7*i)/\∀(m:Nat) (H:List Int),(i=0\/1<=m)->a.drop i=encU m++H->a=encU (v+m*2^(7*i))++H
def cHu{a:List Int}{i v c:Nat}(h:PreU a i v)(K:i<a.length)(Y:a.getD i 0=(c:Int))(Z:128<=c)(h2:c<256):PreU a (i+1) (v+c% 128*2^(7*i)):=by
 have U:2^(7*(i+1))=128*2^(7*i):=by rw[mB,Nat.pow_add,jN]
 obtain⟨hv,B⟩:=h;refine⟨?_,λ m H hm F=>?_⟩
 .rw[U];have:c% 128*2^(7*i)<=127*2^(7*i):=dR _ om;omega
 .have M:1<=m:=om
  have O:a.drop i=encU (c% 128+128*m)++H:=by
   rw[xK a i 0 K,Y,F,Ds (show¬c% 128+128*m<128 by omega)];have L:(c% 128+128*m)% 128+128=c:=om
   have V:(c% 128+128*m)/128=m:=om
   rw[L,V];rfl
  have:=B (c% 128+128*m) H (.inr om) O;rw[this,U];congr 2;rw[eD,fX,jN 128 m,Nat.mul_assoc]
def Mp{a:List Int}(ha:nI a){v n:Int}(h:sL a=some (v,n,0))(hv:v<34359738368):0<=v/\0<=n/\n<=a.length/\a=encU v.toNat++a.drop n.toNat:=by
 unfold sL at h;obtain⟨x,K,h⟩:=mG h;have F:=cHr (body:=rW a) (λ g=>∃(i w:Nat),g=((w:Int),(i:Int))/\i<=10/\(i<=4->PreU a i w))
  (fun x=>∀v n:Int,x=.inr (v,n,0)->v<34359738368->0<=v/\0<=n/\n<=a.length/\a=encU v.toNat++a.drop n.toNat) (λ g ⟨i,w,hg,hi,L⟩=>by
   subst hg
   by_cases M:i<10
   .by_cases cl:i<a.length
    .rw[cHt ha i w M cl];have h0:=ha.getD i;obtain⟨c,V⟩:∃c:Nat,a.getD i 0=(c:Int):=⟨(a.getD i 0).toNat,by omega⟩;rw[V]at h0⊢;have x0:∃u:Nat,nP .or .u64 (w:Int) (IntKind.u64.wrap (((c:Int)% 128)*2^(7*i)))=(u:Int):=⟨(nP .or .u64 (w:Int) (IntKind.u64.wrap (((c:Int)% 128)*2^(7*i)))).toNat,by
      have:0<=nP .or .u64 (w:Int) (IntKind.u64.wrap (((c:Int)% 128)*2^(7*i))):=by simp only[nP];rw[IntKind.wrap_u64];omega
      omega⟩
     have H:i<=4->nP .or .u64 (w:Int) (IntKind.u64.wrap (((c:Int)% 128)*2^(7*i)))=((w+c% 128*2^(7*i):Nat):Int):=λ O=>by
      have hw:=(L O).1;have:=P8 (7*i) om (v:=(w:Int)) (c:=(c:Int)% 128) om (by exact_mod_cast hw) om om;rw[this]
      push_cast
      rfl
     by_cases Y:((decide ((i:Int)=9)&&decide ((1:Int)<(c:Int)))||(decide ((c:Int)=0)&&decide (0<(i:Int))))=true
     .rw[cA Y];exact⟨λ B h=>(by cases h),λ x h v n K=>by cases h;cases K⟩
     .rw[bX Y]
      by_cases b2:(c:Int)<128
      .rw[cA b2];refine⟨λ B h=>(by cases h),λ x h v n K hv=>?_⟩;simp only[cY,Sum.inr.injEq]at h;rw[<-h]at K;simp only[Sum.inr.injEq,hY]at K;obtain⟨Z,e2,_⟩:=K;have y0:i=0\/1<=c:=by
        simp only[dU,bY,cB,lK,not_and]at Y;omega
       by_cases O:i<=4
       .rw[H O]at Z;have z0:a.drop i=encU c++a.drop (i+1):=by rw[xK a i 0 cl,V,zQ om];rfl
        have:=(L O).2 c (a.drop (i+1)) y0 z0;rw[<-Z,<-e2];refine⟨by omega,by omega,by omega,?_⟩;simp only[Qm];rw[show c% 128=c by omega];exact this
       .exfalso;have r0:34359738368<=v:=by
         rw[<-Z];have s0:1<=c:=om
         have u0:i=9->c<=1:=λ e=>by simp only[dU,bY,cB,lK,not_and]at Y;omega
         have p0:∀y:Int,y=((c:Int)% 128)*2^(7*i)->34359738368<=y->y<18446744073709551616->34359738368<=nP .or .u64 (w:Int) (IntKind.u64.wrap (((c:Int)% 128)*2^(7*i))):=λ y hy h5 h6=>by rw[<-hy,tF y om om];exact Int.le_trans h5 (cHs om h6)
         have U:i=5\/i=6\/i=7\/i=8\/i=9:=om
         refine p0 _ rfl ?_ ?_
         .rcases U with rfl|rfl|rfl|rfl|rfl<;>omega
         .rcases U with rfl|rfl|rfl|rfl|rfl
          .omega
          .omega
          .omega
          .omega
          .have:=u0 rfl;omega
        omega
      .rw[bX b2];refine⟨λ B h=>?_,λ x h=>(by cases h)⟩;simp only[cY,fH]at h;subst h
       by_cases O:i<=4
       .refine⟨i+1,w+c% 128*2^(7*i),by rw[H O],by omega,λ _=>cHu (L O) cl V om om⟩
       .obtain⟨u,hu⟩:=x0;exact⟨i+1,u,by rw[hu],by omega,λ h=>absurd h om⟩
    .have:rW a ((w:Int),(i:Int))=some (.inr (.inr (0,0,5))):=by
      unfold rW;rw[cA (by simp;omega),cA (by simp;omega)]
     rw[this];exact⟨λ B h=>(by cases h),λ x h v n K=>by cases h;cases K⟩
   .have:rW a ((w:Int),(i:Int))=some (.inr (.inl ())):=by
     unfold rW;rw[bX (by simp;omega)]
    rw[this];exact⟨λ B h=>(by cases h),λ x h v n K=>by cases h;cases K⟩) (g:=(0,0)) ⟨0,0,rfl,by omega,λ _=>⟨by decide,λ m q0 _ hd=>by simpa using hd⟩⟩ K
 cases x with
 |inl z=>cases h
 |inr y=>have hy:y=(v,n,0):=dH h;exact F v n (by rw[hy]) hv
def encI(x:Int):List Int:=encU x.toNat
def encT(s:ByteArray):List Int:=encU s.size++s.toList.map λ b=>(b.toNat:Int)
def encP(p:aK):List Int:=encI p.site++encI p.inc++encI p.num
def encA(a:aC):List Int:=encI a.mode++encI a.aU
mutual
def encE:aR->List Int
 |⟨k,a,ks⟩=>encI k++(if k=0 then encT a.name++encA a.aI else encI (ks.length:Int)++Jg ks)
def Jg:List aR->List Int
 |[]=>[]
 |k::l=>encE k++Jg l
end
def Gk(e:aR):encE e=encI e.k++(if e.k=0 then encT e.aZ.name++encA e.aZ.aI else encI (e.bG.length:Int)++e.bG.flatMap encE):=by
 have:∀l,Jg l=l.flatMap encE:=by
  intro l;induction l with
  |nil=>rw[Jg];rfl
  |cons x l H=>rw[Jg,H];rfl
 cases e;rw[encE,this]
def encH(h:bA):List Int:=encP h.aM++encA h.aI
def encC(w:aV):List Int:=encP w.aM++encA w.aI
def encW(w:aV):List Int:=encP w.aM++encA w.aI++encI w.bE++encI w.bS
def encQ(q:aA):List Int:=encT q.aB.name++(encI q.aB.kind++(encI q.aB.aU++(encI q.aB.home++(encI q.gen++(encI (q.aS.length:Int)++(q.aS.flatMap encH++(encI (q.aN.length:Int)++(q.aN.flatMap encC++(encI (q.aW.length:Int)++q.aW.flatMap encW)))))))))
def encN(n:bR):List Int:=encP n.aM++(encI n.gen++encE n.bU)
def encS(s:aH):List Int:=encI (s.aF.length:Int)++(s.aF.flatMap encQ++(encI (s.aY.length:Int)++s.aY.flatMap encN))
def nI.app{a b:List Int}(H:nI a)(hb:nI b):nI (a++b):=λ x K=>by
 rcases cX.1 K with h|h
 .exact H x h
 .exact hb x h
def nI.nil:nI []:=λ x H=>by cases H
def nI.flat{α:Type}{f:α->List Int}(h:∀x,nI (f x))(l:List α):nI (l.flatMap f):=λ x H=>by obtain⟨a,_,K⟩:=fN.1 H;exact h a x K
def pK(x:Int):nI (encI x):=P9 _
def Qb(s:ByteArray):nI (encT s):=(P9 _).app λ x H=>by obtain⟨b,_,rfl⟩:=cR.1 H;have:=b.toNat_lt;omega
def Gl(p:aK):nI (encP p):=((pK _).app (pK _)).app (pK _)
def Mq(a:aC):nI (encA a):=(pK _).app (pK _)
def WX:∀(n:Nat) (e:aR),_root_.SizeOf.sizeOf e<n->nI (encE e)
 |0,_,h=>om
 |n+1,e,h=>by
  rw[Gk];refine(pK _).app ?_;split
  .exact(Qb _).app (Mq _)
  .refine(pK _).app λ x K=>?_;obtain⟨k,H,K⟩:=fN.1 K;exact WX n k (xS h H) x K
def cI2(e:aR):nI (encE e):=WX _ e (eQ _)
def cI3(h:bA):nI (encH h):=(Gl _).app (Mq _)
def cI4(h:aV):nI (encC h):=(Gl _).app (Mq _)
def cI5(h:aV):nI (encW h):=(((Gl _).app (Mq _)).app (pK _)).app (pK _)
def cI6(q:aA):nI (encQ q):=
 (Qb _).app ((pK _).app ((pK _).app ((pK _).app ((pK _).app ((pK _).app ((nI.flat cI3 _).app ((pK _).app ((nI.flat cI4 _).app ((pK _).app (nI.flat cI5 _))))))))))
def cI7(n:bR):nI (encN n):=(Gl _).app ((pK _).app (cI2 _))
def WY(s:aH):nI (encS s):=(pK _).app ((nI.flat cI6 _).app ((pK _).app (nI.flat cI7 _)))
abbrev D(r:List Int):aX:=⟨⟨r,0⟩⟩
def okI(x:Int):Prop:=0<=x/\x<=1073741824
def Src.right{a b:List Int}(h:Src (a++b)):Src b:=⟨λ x H=>h.bytes x (cX.2 (.inr H)),by have:=h.len;rw[cC]at this;omega⟩
def Du{x:Int}(h:okI x){r:List Int}(H:Src (encI x++r)):sL (encI x++r)=some (x,((encI x).length:Int),0):=by have hb:=H.right.bytes;unfold encI;obtain⟨O,U⟩:=h;rw[WW om hb];rw[iR O]
def WZ{lim over x:Int}(H:0<=x)(U:x<=lim)(Y:lim<=1073741824){r:List Int}(O:Src (encI x++r)):vU lim over (D (encI x++r))=some (x,D r):=by unfold vU;rw[bX (by simp),Du ⟨H,by omega⟩ O,eF,tF lim om om,bX (by simp;omega)];unfold AO;rw[bX (by simp),gdp (by simp;omega)];simp only[mH (x:=x) om om,Qm,fA]
def Gm{lim x:Int}(H:0<=x)(O:x<=lim)(U:lim<=1073741824){r:List Int}(Y:Src (encI x++r)):sZ lim (D (encI x++r))=some (x,D r):=by unfold sZ;rw[WZ H O U Y];rfl
def xT{x:Int}(h:okI x){r:List Int}(H:Src (encI x++r)):rX (D (encI x++r))=some (x,D r):=by unfold rX;rw[WZ h.1 h.2 Om H];rfl
def cId(s:ByteArray):pI (s.toList.map λ b=>(b.toNat:Int))=s:=by
 have:(s.toList.map λ b=>(b.toNat:Int)).map (λ n=>UInt8.ofNat n.toNat)=s.data.toList:=by
  rw[jP,lM]
  conv=>rhs;rw[<-List.map_id s.data.toList]
  refine jI λ b _=>?_;simp
 unfold pI;rw[this]
def wK(s:ByteArray):s.toList.length=s.size:=by rw[lM];rfl
def Qd{s:ByteArray}(h:s.size<=1024){r:List Int}(H:Src (encT s++r)):vV (encT s++r)=some (s,((encT s).length:Int),0):=by
 have K:(s.toList.map λ b=>(b.toNat:Int)).length=s.size:=by rw[dK,wK]
 have L:=Dt 4 s.size om;have O:=H.len;have U:(encT s++r).length=(encU s.size).length+(s.size+r.length):=by unfold encT;rw[cC,cC,K];omega
 unfold vV;unfold encT at H⊢;rw[cE]at H⊢;rw[WW om H.right.bytes,eF];rw[bX (by simp),bX (by simp;omega)];simp only;have Y:IntKind.i64.wrap (s.size:Int)=(s.size:Int):=mH om om;have B:IntKind.i64.wrap (((encU s.size).length:Int)+(s.size:Int))=((encU s.size).length+s.size:Nat):=by rw[mH om om];omega
 have F:(encU s.size++((s.toList.map λ b=>(b.toNat:Int))++r)).length=(encU s.size).length+(s.size+r.length):=by rw[cC,cC,K]
 rw[Y,B,F,mH om om,bX (by simp;omega),gdp om];simp only[Qm];rw[List.take_append,eJ om,show(encU s.size).length+s.size-(encU s.size).length=s.size by omega,fA,List.take_append,eJ om,K,hJ,lX,dY,cId];congr 3;rw[cC,K]
def W0{s:ByteArray}(h:s.size<=1024){r:List Int}(H:Src (encT s++r)):uV (D (encT s++r))=some (s,D r):=by
 have L:(s.toList.map λ b=>(b.toNat:Int)).length=s.size:=by rw[dK,wK]
 have K:=Dt 4 s.size om;have O:=H.len;have U:(encT s++r).length=(encU s.size).length+(s.size+r.length):=by unfold encT;rw[cC,cC,L];omega
 have V:=Qd h H;unfold uV;rw[bX (by simp),V,eF,bX (by simp),gdp (by simp;omega)];simp only[Qm,fA]
def Jh{p:aK}(h:mV p=true):okI p.site/\okI p.inc/\okI p.num:=by unfold mV j5 at h;simp only[bY,cB]at h;unfold okI;omega
def Qe{p:aK}(h:mV p=true){r:List Int}(O:Src (encP p++r)):tM (encP p++r)=some (p,((encP p).length:Int),0):=by
 obtain⟨U,Y,B⟩:=Jh h;have K:∀x:Int,okI x->(encI x).length<=5:=λ x L=>(Dt 4 x.toNat (by have:=L.1;have:=L.2;omega)).2;have l1:=K _ U;have l2:=K _ Y;have l3:=K _ B;have h0:=O.len;have H:=O;unfold encP at H⊢;rw[cE,cE]at H⊢;have V:=H.right;have Z:=V.right;have F:∀x:Int,okI x->IntKind.i64.wrap (if 1073741824<x then 1073741824 else x)=x:=λ x L=>by rw[bX (by have:=L.2;omega),mH (by have:=L.1;omega) (by have:=L.2;omega)]
 have M:(encI p.site++(encI p.inc++(encI p.num++r))).length=(encI p.site).length+((encI p.inc).length+((encI p.num).length+r.length)):=by simp
 have x0:=O.right.len;have t1:qK (encI p.site++(encI p.inc++(encI p.num++r))) (0,0,Arr.rep 3 0)=some (.inl (((encI p.site).length:Int),1,Arr.put (Arr.rep 3 0) 0 p.site)):=by unfold qK;simp only[Int.toNat_zero,fF];rw[cA Om,gdp om,Du U H,eF,bX (by simp),gdp Om];simp only[F _ U];rw[mH om om,lF];rfl
 have t2:∀z,qK (encI p.site++(encI p.inc++(encI p.num++r))) (((encI p.site).length:Int),1,z)=some (.inl (((encI p.site).length:Int)+((encI p.inc).length:Int),2,Arr.put z 1 p.inc)):=by intro z;unfold qK;simp only[Qm,fA];rw[cA (by simp),gdp om,Du Y V,eF,bX (by simp),gdp Om];simp only[F _ Y];rw[mH om om];rfl
 have t3:∀z,qK (encI p.site++(encI p.inc++(encI p.num++r))) (((encI p.site).length:Int)+((encI p.inc).length:Int),2,z)=some (.inl (((encI p.site).length:Int)+((encI p.inc).length:Int)+((encI p.num).length:Int),3,Arr.put z 2 p.num)):=by
  intro z;unfold qK;have hd:(encI p.site++(encI p.inc++(encI p.num++r))).drop (((encI p.site).length:Int)+((encI p.inc).length:Int)).toNat=encI p.num++r:=by rw[show(((encI p.site).length:Int)+((encI p.inc).length:Int)).toNat=(encI p.site).length+(encI p.inc).length by omega,<-eV,fA,fA]
  simp only[hd];rw[cA (by simp),gdp om,Du B Z,eF,bX (by simp),gdp Om];simp only[F _ B];rw[mH om om];rfl
 have t4:∀(i:Int) z,qK (encI p.site++(encI p.inc++(encI p.num++r))) (i,3,z)=some (.inr (.inl (i,z))):=λ i z=>by unfold qK;rw[bX (by simp)]
 unfold tM;rw[mP,t1];simp only;rw[mP,t2];simp only;rw[mP,t3];simp only;rw[mP,t4];simp only[qm];unfold HG;have g:∀x y z:Int,(⟨Arr.get (Arr.put (Arr.put (Arr.put (Arr.rep 3 0) 0 x) 1 y) 2 z) 0 0,Arr.get (Arr.put (Arr.put (Arr.put (Arr.rep 3 0) 0 x) 1 y) 2 z) 1 0,Arr.get (Arr.put (Arr.put (Arr.put (Arr.rep 3 0) 0 x) 1 y) 2 z) 2 0⟩:aK)=⟨x,y,z⟩:=λ _ _ _=>rfl;simp only[g];rw[bX (by simpa using h)];congr 3;simp only[cC];omega
def Mr{p:aK}(h:mV p=true){r:List Int}(H:Src (encP p++r)):uY (D (encP p++r))=some (p,D r):=by obtain⟨O,U,Y⟩:=Jh h;have K:∀x:Int,okI x->(encI x).length<=5:=λ x L=>(Dt 4 x.toNat (by have:=L.1;have:=L.2;omega)).2;have F:=K _ O;have Z:=K _ U;have l3:=K _ Y;have B:=H.len;have V:=Qe h H;unfold uY;have:(encP p++r).length=(encP p).length+r.length:=cC;rw[bX (by simp),V,eF,bX (by simp),gdp (by simp only;omega)];simp only[Qm,fA]
def Ms{a:aC}(O:okI a.mode)(U:okI a.aU){r:List Int}(H:Src (encA a++r)):vA (D (encA a++r))=some (a,D r):=by unfold vA;unfold encA at H⊢;rw[cE]at H⊢;rw[xT O H,eF,xT U H.right];rfl
def Dv{α Q:Type}{body:Int×aX×Q->Option ((Int×aX×Q)⊕(aX×Q))}{enc:α->List Int}{ok:α->Prop}(R:List α->Q)
  (O:∀(n:Int) x rest H,ok x->Src (enc x++rest)->0<n->n<=100->H.length<=100->body (n,D (enc x++rest),R H)=some (.inl (n-1,D rest,R (H++[x]))))
  (U:∀d q,body (0,d,q)=some (.inr (d,q))):∀(l H:List α) (rest:List Int),(∀x∈l,ok x)->Src (l.flatMap enc++rest)->H.length+l.length<=100->
   mF body ((l.length:Int),D (l.flatMap enc++rest),R H)=some (D rest,R (H++l))
 |[],H,rest,_,_,_=>by have e:body ((([]:List α).length:Int),D (([]:List α).flatMap enc++rest),R H)=some (.inr (D rest,R H)):=U _ _;rw[mP,e,dY]
 |x::l,H,rest,h,K,L=>by rw[eE,cE]at K⊢;simp only[ym]at L⊢;rw[mP,O _ x _ H (h x (.head _)) K om om om];simp only;have:=Dv R O U l (H++[x]) rest (λ y V=>h y (.tail _ V)) K.right (by simp;omega);rw[show(((l.length+1:Nat):Int)-1)=(l.length:Int)by omega,this,cE];rfl
def okA(a:aC):Prop:=okI a.mode/\okI a.aU
def zR{a:aC}(h:oU a=true):okA a:=by unfold oU pX sX at h;unfold okA okI;simp at h;omega
def xU{s:ByteArray}(h:oH s=true):s.size<=12:=by unfold oH at h;simp at h;omega
def Ji:∀{l:List aR} {k:aR},okL l=true->k∈l->okE k=true
 |x::l,k,h,hk=>by
  simp only[okL,bY]at h;rcases cK.1 hk with rfl|hk
  .exact h.1
  .exact Ji h.2 hk
def cIp{e k:aR}(O:k∈e.bG):nE k+1<=nE e:=by
 have:∀(H:List aR),k∈H->nE k<=nM H:=by
  intro H;induction H with
  |nil=>intro h;cases h
  |cons x H U=>
   intro h;rw[I8];rcases cK.1 h with rfl|h
   .omega
   .have:=U h;omega
 have:=this e.bG O;rw[Mm e];omega
def W3:∀(n:Nat) (O:Int) (e:aR),okE e=true->mW e<=24->1<=O->O+nE e<=5->7<=O+n->∀r,Src (encE e++r)->tN n O (D (encE e++r))=some (e,D r)
 |0,O,e,_,_,h1,h2,h3,_,_=>by have:=z8 e;omega
 |n+1,O,e,K,hn,h1,h2,h3,r,L=>by
  show p7 (tN n) O (D (encE e++r))=_;have hd:=z8 e;unfold p7;rw[bX (by simp;omega)];unfold o9;rw[Gk,cE]at L|-
  by_cases c:e.bG.length=0
  .obtain⟨B,k1,V⟩:=(Jb c).1 K;have Y:okI e.k:=by rw[B];unfold okI;omega
   rw[xT Y L,eF];have H:=L.right;rw[cA B,cE]at H⊢;obtain⟨a1,a2⟩:=zR V;have hs:=xU k1;simp only[cG,cQ,bZ,cI,B,cH];rw[W0 om H,eF,Ms a1 a2 H.right,eF];have U:e.bG=[]:=dA c;obtain⟨ek,ea,x0⟩:=e;simp only at B U;subst B;subst U;rfl
  .obtain⟨⟨B,k1,V⟩,k3⟩:=(Jc c).1 K;have hlen:=tO e.bG;have z0:=vG e;have Y:okI e.k:=by unfold okI;omega
   rw[xT Y L,eF];have H:=L.right;have kn:¬e.k=0:=om
   rw[bX kn,cE]at H⊢;simp only[cG,cQ,bZ,cI,kn,cO];rw[Gm om om Om H,eF];have hw:IntKind.i64.wrap (O+1)=O+1:=mH om om;have y0:=Dv (body:=xD (tN n) O) (enc:=encE) (ok:=λ k=>okE k=true/\mW k<=24/\O+1+nE k<=5)
    (λ F=>(⟨e.k,⟨aR.zero.aZ.name,⟨aR.zero.aZ.aI.mode,aR.zero.aZ.aI.aU⟩⟩,F⟩:aR)) (λ m x M F Z h0 hm u0 hp=>by
     unfold xD;rw[cA (by simp;omega)];simp only[hw];rw[W3 n (O+1) x Z.1 Z.2.1 om Z.2.2 om M h0,eF,gdp om,mH om om])
    (λ d q=>by unfold xD;simp) e.bG [] r (λ k Y=>⟨Ji k3 Y,by have:=Ja Y;omega,by have:=cIp Y;omega⟩) H.right (by simp;omega)
   show(mF _ ((e.bG.length:Int),D (e.bG.flatMap encE++r),(⟨e.k,⟨aR.zero.aZ.name,⟨aR.zero.aZ.aI.mode,aR.zero.aZ.aI.aU⟩⟩,[]⟩:aR))).bind _=_;rw[y0,eF];unfold H1;obtain⟨ek,ea,x0⟩:=e;simp only at V;subst V;rfl
def cIr{e:aR}(H:okE e=true)(O:fitE e=true){r:List Int}(U:Src (encE e++r)):E9 1 (D (encE e++r))=some (e,D r):=by unfold fitE at O;simp only[bY,cB]at O;unfold E9;exact W3 _ 1 e H O.2 Om om Om r U
structure OkQ (q:aA):Prop where
 name:q.aB.name.size<=1024
 kind:okI q.aB.kind
 aU:okI q.aB.aU
 home:okI q.aB.home
 gen:okI q.gen
 lh:q.aS.length<=8
 lc:q.aN.length<=8
 lw:q.aW.length<=8
 h:∀x∈q.aS,mV x.aM=true/\okA x.aI
 c:∀x∈q.aN,mV x.aM=true/\okA x.aI/\x.bE=0/\x.bS=0
 w:∀x∈q.aW,mV x.aM=true/\okA x.aI/\okI x.bE/\okI x.bS
def cIs{q:aA}(h:OkQ q){r:List Int}(O:Src (encQ q++r)):vY (D (encQ q++r))=some (q,D r):=by
 have lh:=h.lh;have lc:=h.lc;have lw:=h.lw;unfold vY;unfold encQ at O⊢;simp only[cE]at O⊢;rw[W0 h.name O,eF]
 replace O:=O.right
 rw[xT h.kind O,eF]
 replace O:=O.right
 rw[xT h.aU O,eF]
 replace O:=O.right
 rw[xT h.home O,eF]
 replace O:=O.right
 rw[xT h.gen O,eF]
 replace O:=O.right
 rw[Gm om om Om O,eF]
 replace O:=O.right
 have B:=Dv (body:=xG) (enc:=encH) (ok:=λ x=>mV x.aM=true/\okA x.aI)
  (λ U=>(⟨⟨q.aB.name,q.aB.kind,q.aB.aU,q.aB.home⟩,U,[],[],q.gen⟩:aA)) (λ m x Y U K H hm F L=>by
   unfold xG;unfold encH at H⊢;rw[cE]at H⊢;rw[cA (by simp;omega),Mr K.1 H,eF,Ms K.2.1 K.2.2 H.right,eF,gdp (by first|omega|(simp only;omega)),mH om om])
  (λ d q=>by unfold xG;simp) q.aS [] _ h.h O (by simp;omega)
 rw[B,eF]
 replace O:=O.right
 unfold Fe;rw[Gm om om Om O,eF]
 replace O:=O.right
 have M:=Dv (body:=xF) (enc:=encC) (ok:=λ x=>mV x.aM=true/\okA x.aI/\x.bE=0/\x.bS=0)
  (λ U=>(⟨⟨q.aB.name,q.aB.kind,q.aB.aU,q.aB.home⟩,[]++q.aS,U,[],q.gen⟩:aA)) (λ m x Y U K H hm F L=>by
   unfold xF;unfold encC at H⊢;rw[cE]at H⊢;rw[cA (by simp;omega),Mr K.1 H,eF,Ms K.2.1.1 K.2.1.2 H.right,eF,gdp (by first|omega|(simp only;omega)),mH om om];obtain⟨xp,xa,xr,xs⟩:=x;obtain⟨_,_,V,Z⟩:=K;simp only at V Z;subst V;subst Z;rfl)
  (λ d q=>by unfold xF;simp) q.aN [] _ h.c O (by simp;omega)
 rw[M,eF]
 replace O:=O.right
 unfold Fd;rw[Gm om om Om O,eF]
 replace O:=O.right
 have key1:=Dv (body:=xE) (enc:=encW) (ok:=λ x=>mV x.aM=true/\okA x.aI/\okI x.bE/\okI x.bS)
  (λ U=>(⟨⟨q.aB.name,q.aB.kind,q.aB.aU,q.aB.home⟩,[]++q.aS,[]++q.aN,U,q.gen⟩:aA)) (λ m x Y U K H hm F L=>by
   unfold xE;unfold encW at H⊢;simp only[cE]at H⊢;rw[cA (by simp;omega),Mr K.1 H,eF,Ms K.2.1.1 K.2.1.2 H.right,eF,xT K.2.2.1 H.right.right,eF,xT K.2.2.2 H.right.right.right,eF,gdp (by first|omega|(simp only;omega)),mH om om])
  (λ d q=>by unfold xE;simp) q.aW [] _ h.w O (by simp;omega)
 rw[key1,eF];rfl
structure OkS (s:aH):Prop where
 lq:s.aF.length<=8
 ln:s.aY.length<=8
 q:∀q∈s.aF,OkQ q
 n:∀n∈s.aY,mV n.aM=true/\okI n.gen/\okE n.bU=true/\fitE n.bU=true
def cIt{s:aH}(h:OkS s)(V:(encS s).length<=4294967296):vZ (encS s)=some (if nX s=true then(s,0)else(aH.zero,2)):=by
 have lq:=h.lq;have ln:=h.ln;have O:Src (encS s++[]):=⟨(WY s).app nI.nil,by rw[dY];omega⟩;have F:encS s=encS s++[]:=(dY _).symm;unfold vZ;rw[F];unfold encS at O⊢;simp only[cE]at O⊢;have M:=Gm (lim:=8) om om Om O;have z:(⟨{bT.zero with rest:=encI (s.aF.length:Int)++(s.aF.flatMap encQ++(encI (s.aY.length:Int)++(s.aY.flatMap encN++[])))}⟩:aX)=D (encI (s.aF.length:Int)++(s.aF.flatMap encQ++(encI (s.aY.length:Int)++(s.aY.flatMap encN++[])))):=rfl;rw[z,M,eF]
 replace O:=O.right
 have Y:=Dv (body:=xI) (enc:=encQ) (ok:=OkQ) (λ U=>(⟨U,[]⟩:aH)) (λ m x rest U K H hm B L=>by
   unfold xI;rw[cA (by simp;omega),cIs K H,eF,gdp (by first|omega|(simp only;omega)),mH om om])
  (λ d q=>by unfold xI;simp) s.aF [] _ h.q O (by simp;omega)
 rw[Y,eF]
 replace O:=O.right
 unfold Fv;rw[Gm om om Om O,eF]
 replace O:=O.right
 have key1:=Dv (body:=xH) (enc:=encN) (ok:=λ n=>mV n.aM=true/\okI n.gen/\okE n.bU=true/\fitE n.bU=true) (λ U=>(⟨[]++s.aF,U⟩:aH)) (λ m x rest U K H hm B L=>by
   unfold xH;unfold encN at H⊢;simp only[cE]at H⊢;rw[cA (by simp;omega),Mr K.1 H,eF,xT K.2.1 H.right,eF,cIr K.2.2.1 K.2.2.2 H.right.right,eF,gdp (by first|omega|(simp only;omega)),mH om om])
  (λ d q=>by unfold xH;simp) s.aY [] _ h.n O (by simp;omega)
 rw[key1,eF];unfold Ig;simp only[cG,cQ,bZ,cI,jm,Ym];rw[bX (by simp),Gj,eF];cases nX s<;>rfl
def Bk{α:Type}(F:aX->Option (α×aX))(enc:α->List Int):Prop:=
 ∀d v H,F d=some (v,H)->H.bC.err=0->d.bC.err=0/\(Src d.bC.rest->d.bC.rest=enc v++H.bC.rest)
def Bk.varint{lim over:Int}(V:0<=lim)(Z:lim<=1073741824)(ho:over≠0){d:aX}{v:Int}{H:aX}(h:vU lim over d=some (v,H))(O:H.bC.err=0):
  d.bC.err=0/\(Src d.bC.rest->d.bC.rest=encI v++H.bC.rest/\0<=v/\v<=lim):=by
 unfold vU at h
 by_cases c:d.bC.err=0
 .refine⟨c,λ Y=>?_⟩;rw[bX (by simp[c])]at h;obtain⟨⟨u,n,e⟩,B,h⟩:=mG h;rw[tF lim om om]at h
  by_cases K:(decide (e=0)&&decide (lim<u))=true
  .rw[cA K]at h;unfold AO at h;rw[cA (by simpa using ho)]at h;cases h;exact absurd O ho
  .rw[bX K]at h;unfold AO at h
   by_cases U:e=0
   .subst U;have L:u<=lim:=by simpa using K
    obtain⟨F,b1,b2,M⟩:=Mp Y.bytes B om;rw[bX (by simp),gdp (by simp only;omega)]at h;cases h;simp only;rw[mH om om];exact⟨M,F,L⟩
   .rw[cA (by simpa using U)]at h;cases h;exact absurd O U
 .rw[cA (by simpa using c)]at h;cases h;exact absurd O c
def Bk.bL:Bk rX encI:=λ d v U h H=>by unfold rX at h;obtain⟨x,K,h⟩:=mG h;cases h;have:=Bk.varint Om Om Om K H;exact⟨this.1,λ O=>(this.2 O).1⟩
def Bk.count{lim:Int}(U:0<=lim)(B:lim<=100){d:aX}{v:Int}{H:aX}(h:sZ lim d=some (v,H))(Y:H.bC.err=0):
  d.bC.err=0/\(Src d.bC.rest->d.bC.rest=encI v++H.bC.rest/\0<=v/\v<=100):=by
 unfold sZ at h;obtain⟨x,K,h⟩:=mG h;cases h;have:=Bk.varint U om Om K Y;exact⟨this.1,λ O=>⟨(this.2 O).1,(this.2 O).2.1,by have:=(this.2 O).2.2;omega⟩⟩
def Qf{l:List Int}(h:nI l):(pI l).size=l.length/\(pI l).toList.map (λ b=>(b.toNat:Int))=l:=by
 have e:(pI l).toList=l.map λ n=>UInt8.ofNat n.toNat:=by rw[lM];simp[pI]
 have H:(pI l).toList.map (λ b=>(b.toNat:Int))=l:=by
  rw[e,jP]
  conv=>rhs;rw[<-List.map_id l]
  refine jI λ n O=>?_;have:=h n O;simp only[Function.comp,id];rw[UInt8.toNat_ofNat'];omega
 refine⟨?_,H⟩;rw[<-wK,e,dK]
def Bk.text:Bk uV encT:=λ d v d' h B=>by
 unfold uV at h
 by_cases c:d.bC.err=0
 .refine⟨c,λ O=>?_⟩;rw[bX (by simp[c])]at h;obtain⟨⟨u,n,e⟩,H,h⟩:=mG h
  by_cases U:e=0
  .subst U;rw[bX (by simp)]at h;obtain⟨_,h⟩:=mM h;cases h;unfold vV at H;obtain⟨⟨x,k,f⟩,K,H⟩:=mG H
   by_cases Y:f=0
   .subst Y;rw[bX (by simp)]at H
    by_cases F:1024<x
    .rw[cA (by simpa using F)]at H;cases H
    .rw[bX (by simpa using F)]at H;obtain⟨b0,b1,b2,L⟩:=Mp O.bytes K om;have hl:=O.len;simp only[mH (x:=x) om om]at H;rw[mH (x:=(d.bC.rest.length:Int)-k) om om]at H
     by_cases M:(d.bC.rest.length:Int)-k<x
     .rw[cA (by simpa using M)]at H;cases H
     .rw[bX (by simpa using M)]at H;simp only[mH (x:=k+x) om om]at H;obtain⟨_,H⟩:=mM H;cases H;have V:nI ((d.bC.rest.take (k+x).toNat).drop k.toNat):=λ y Z=>O.bytes y (gD (gU Z));obtain⟨z1,z2⟩:=Qf V;have zl:((d.bC.rest.take (k+x).toNat).drop k.toNat).length=x.toNat:=by simp;omega
      unfold encT;rw[z1,z2,zl];simp only;have s1:d.bC.rest.drop k.toNat=(d.bC.rest.take (k+x).toNat).drop k.toNat++d.bC.rest.drop (k+x).toNat:=by
       conv=>lhs;rw[<-eO (k+x).toNat d.bC.rest]
       rw[fJ (by simp;omega)]
      rw[cE,<-s1];exact L
   .rw[cA (by simpa using Y)]at H;simp only[cY,hY]at H;exact absurd H.2.2 Y
  .rw[cA (by simpa using U)]at h;cases h;exact absurd B U
 .rw[cA (by simpa using c)]at h;cases h;exact absurd B c
def Mt{a:List Int}(L:Src a){at_ i:Int}{z:Arr Int 3}(h0:0<=at_)(h1:at_<=a.length)(i0:0<=i)(i3:i<3){y}(h:qK a (at_,i,z)=some y):
  (∃e,y=.inr (.inr (aK.zero,0,e))/\e≠0)\/∃u H,y=.inl (H,i+1,Arr.put z i.toNat u)/\at_<=H/\H<=a.length/\(u<1073741824->a.drop at_.toNat=encI u++a.drop H.toNat):=by
 unfold qK at h;have hl:=L.len;simp only at h;rw[cA (by simpa using i3),gdp om]at h;have U:Src (a.drop at_.toNat):=⟨L.bytes.drop _,by simp;omega⟩;obtain⟨⟨u,n,e⟩,Y,h⟩:=mG h
 by_cases c:e=0
 .subst c;rw[bX (by simp),gdp om,mH (x:=i+1) om om]at h;obtain⟨r,B,F⟩:=Jf U.bytes;rw[Y]at B;cases B;have o:=F.ok rfl;have V:=F.v0;rw[dS]at o;simp only at o V;rw[mH (x:=at_+n) om om]at h;have Z:IntKind.i64.wrap (if 1073741824<u then 1073741824 else u)=if 1073741824<u then 1073741824 else u:=by split<;>exact mH om om
  rw[Z]at h;refine .inr ⟨_,_,(dH h).symm,by omega,by omega,λ K=>?_⟩;have O:¬1073741824<u:=by intro hc;rw[cA hc]at K;omega
  rw[bX O];obtain⟨b0,b1,b2,M⟩:=Mp U.bytes Y om;rw[eV]at M;rw[show(at_+n).toNat=at_.toNat+n.toNat by omega];exact M
 .rw[cA (by simpa using c)]at h;exact .inl ⟨e,(dH h).symm,c⟩
def W4{a:List Int}(V:Src a){p:aK}{n:Int}(h:tM a=some (p,n,0)):a=encP p++a.drop n.toNat:=by
 unfold tM at h;obtain⟨x,K,h⟩:=mG h;rw[mP]at K;have U:∀e:Int,e≠0->∀z:aK×Int×Int,z=(aK.zero,0,e)->some z=some (p,n,0)->False:=λ e Y z hz F=>by rw[hz]at F;simp only[cY,hY]at F;exact Y F.2.2
 cases Z:qK a (0,0,Arr.rep 3 0)with
 |none=>rw[Z]at K;cases K
 |some y1=>
 rw[Z]at K;rcases Mt V Om om Om Om Z with⟨e,rfl,Y⟩|⟨H,a1,rfl,l1,m1,k1⟩
 .cases K;exact(U e Y _ rfl h).elim
 simp only at K;rw[mP]at K;cases h2:qK a (a1,0+1,Arr.put (Arr.rep 3 0) (0:Int).toNat H)with
 |none=>rw[h2]at K;cases K
 |some y2=>
 rw[h2]at K;rcases Mt V om om Om Om h2 with⟨e,rfl,Y⟩|⟨O,a2,rfl,l2,m2,k2⟩
 .cases K;exact(U e Y _ rfl h).elim
 simp only at K;rw[mP]at K;cases h3:qK a (a2,0+1+1,Arr.put (Arr.put (Arr.rep 3 0) (0:Int).toNat H) (0+1:Int).toNat O)with
 |none=>rw[h3]at K;cases K
 |some y3=>
 rw[h3]at K;rcases Mt V om om Om Om h3 with⟨e,rfl,Y⟩|⟨B,M,rfl,l3,m3,k3⟩
 .cases K;exact(U e Y _ rfl h).elim
 simp only at K;rw[mP]at K;have h4:qK a (M,0+1+1+1,Arr.put (Arr.put (Arr.put (Arr.rep 3 0) (0:Int).toNat H) (0+1:Int).toNat O) (0+1+1:Int).toNat B)=some (.inr (.inl (M,Arr.put (Arr.put (Arr.put (Arr.rep 3 0) (0:Int).toNat H) (0+1:Int).toNat O) (0+1+1:Int).toNat B))):=by unfold qK;rw[bX (by simp)]
 rw[h4]at K;cases K;simp only at h;unfold HG at h;have g:(⟨Arr.get (Arr.put (Arr.put (Arr.put (Arr.rep 3 0) (0:Int).toNat H) (0+1:Int).toNat O) (0+1+1:Int).toNat B) 0 0,Arr.get (Arr.put (Arr.put (Arr.put (Arr.rep 3 0) (0:Int).toNat H) (0+1:Int).toNat O) (0+1+1:Int).toNat B) 1 0,Arr.get (Arr.put (Arr.put (Arr.put (Arr.rep 3 0) (0:Int).toNat H) (0+1:Int).toNat O) (0+1+1:Int).toNat B) 2 0⟩:aK)=⟨H,O,B⟩:=rfl;simp only[g]at h;cases L:mV ⟨H,O,B⟩with
 |false=>rw[L]at h;cases h
 |true=>rw[L]at h;cases h;unfold mV j5 at L;simp only[bY,cB]at L;have e1:=k1 om;have e2:=k2 om;have e3:=k3 om;simp only[Int.toNat_zero,fF]at e1;unfold encP;rw[cE,cE,<-e3,<-e2];exact e1
def Bk.aM:Bk uY encP:=λ d v B h O=>by
 unfold uY at h
 by_cases c:d.bC.err=0
 .refine⟨c,λ U=>?_⟩;rw[bX (by simp[c])]at h;obtain⟨⟨u,n,e⟩,Y,h⟩:=mG h
  by_cases H:e=0
  .subst H;rw[bX (by simp)]at h;obtain⟨_,h⟩:=mM h;cases h;exact W4 U Y
  .rw[cA (by simpa using H)]at h;cases h;exact absurd O H
 .rw[cA (by simpa using c)]at h;cases h;exact absurd O c
def Bk.then{α:Type}{F:aX->Option (α×aX)}{enc:α->List Int}(B:Bk F enc){d:aX}{x:α×aX}(K:F d=some x){E:List Int}{O:aX}
  (h:x.2.bC.err=0/\(Src x.2.bC.rest->x.2.bC.rest=E++O.bC.rest)):d.bC.err=0/\(Src d.bC.rest->d.bC.rest=(enc x.1++E)++O.bC.rest):=by
 obtain⟨v,U⟩:=x;obtain⟨M,L⟩:=B d v U K h.1;refine⟨M,λ Y=>?_⟩;have e:=L Y;have H:Src U.bC.rest:=Src.right (a:=enc v) (by rw[<-e];exact Y);rw[cE,<-h.2 H];exact e
def Bk.aI:Bk vA encA:=λ d v O h H=>by unfold vA at h;obtain⟨x,K,h⟩:=mG h;obtain⟨y,L,h⟩:=mG h;cases h;exact Bk.bL.then K (Bk.bL _ _ _ L H)
def W5{α Q:Type}{body:Int×aX×Q->Option ((Int×aX×Q)⊕(aX×Q))}{enc:α->List Int}(R:List α->Q)
  (F:∀(n:Int) d H y,0<n->d.bC.err=0->body (n,d,R H)=some y->∃x O,y=.inl (IntKind.i64.wrap (n-1),O,R (H++[x]))/\(O.bC.err=0->Src d.bC.rest->d.bC.rest=enc x++O.bC.rest))
  (B:∀(n:Int) d q,¬(0<n/\d.bC.err=0)->body (n,d,q)=some (.inr (d,q))):
  ∀(k:Nat) (d:aX) (H:List α) (O:aX) (Y:Q),k<=100->mF body ((k:Int),d,R H)=some (O,Y)->O.bC.err=0->
   d.bC.err=0/\∃l,Y=R (H++l)/\l.length=k/\(Src d.bC.rest->d.bC.rest=l.flatMap enc++O.bC.rest)
 |0,d,H,O,Y,_,h,K=>by rw[mP,B _ _ _ om]at h;cases h;exact⟨K,[],by rw[dY],rfl,λ _=>rfl⟩
 |k+1,d,H,O,Y,Z,h,K=>by
  by_cases c:d.bC.err=0
  .rw[mP]at h;cases hb:body (((k+1:Nat):Int),d,R H)with
   |none=>rw[hb]at h;cases h
   |some y=>rw[hb]at h;obtain⟨x,M,rfl,L⟩:=F _ _ _ _ om c hb;simp only at h;rw[mH om om,show(((k+1:Nat):Int)-1)=(k:Int)by omega]at h;obtain⟨i1,l,i2,i3,i4⟩:=W5 R F B k M (H++[x]) O Y om h K;refine⟨c,x::l,by rw[i2,cE];rfl,by simp[i3],λ U=>?_⟩;have e:=L i1 U;have:=i4 (Src.right (a:=enc x) (by rw[<-e];exact U));rw[eE,cE,<-this];exact e
  .rw[mP,B _ _ _ (λ V=>c V.2)]at h;cases h;exact absurd K c
def Jj{Q:Type}{body:Int×aX×Q->Option ((Int×aX×Q)⊕(aX×Q))}(O:∀(n:Int) d q,¬(0<n/\d.bC.err=0)->body (n,d,q)=some (.inr (d,q))){n:Int}{d:aX}{q:Q}{z:aX×Q}
  (H:mF body (n,d,q)=some z) (h:z.1.bC.err=0):d.bC.err=0:=by
 by_cases c:d.bC.err=0
 .exact c
 .rw[mP,O _ _ _ (λ U=>c U.2)]at H;cases H;exact h
def vH{a b:List Int}{e:List Int}(h:a=e++b)(H:Src a):Src b:=Src.right (a:=e) (by rw[<-h];exact H)
def Gn{α Q:Type}{body:Int×aX×Q->Option ((Int×aX×Q)⊕(aX×Q))}{enc:α->List Int}(R:List α->Q)
  (V:∀(n:Int) d pre y,0<n->d.bC.err=0->body (n,d,R pre)=some y->∃x Y,y=.inl (IntKind.i64.wrap (n-1),Y,R (pre++[x]))/\(Y.bC.err=0->Src d.bC.rest->d.bC.rest=enc x++Y.bC.rest))
  (B:∀(n:Int) d q,¬(0<n/\d.bC.err=0)->body (n,d,q)=some (.inr (d,q))) {lim:Int} (Z:0<=lim) (h1:lim<=100) {d:aX} {v:Int×aX} (hv:sZ lim d=some v)
  {F:Q} (hq:F=R []) {z:aX×Q} (U:mF body (v.1,v.2,F)=some z) (h:z.1.bC.err=0) (H:Src d.bC.rest):
  ∃l,z.2=R l/\d.bC.rest=encI (l.length:Int)++(l.flatMap enc++z.1.bC.rest):=by
 obtain⟨n,M⟩:=v;obtain⟨d2,q⟩:=z;simp only at U h⊢;have O:M.bC.err=0:=Jj B U h;obtain⟨K,c4,c5⟩:=(Bk.count Z h1 hv O).2 H;have L:n=((n.toNat:Nat):Int):=om
 rw[L,hq]at U;obtain⟨_,l,k1,k2,k3⟩:=W5 R V B n.toNat M [] d2 q om U h;refine⟨l,k1,?_⟩;rw[k2,<-L,<-k3 (vH K H)];exact K
def W6{q:aA}(O:SoundP q){w:aV}(K:w∈ordQ q):mV w.aM=true/\mS q.aB w.aI=true/\(nR w.aM q.aS).length+1<=8:=by
 have Y:=(xP _ _).1 O.hv;rcases cX.1 K with h|h
 .obtain⟨U,H,_⟩:=O.cg w h;refine⟨(Y.2.2.1.each _ (Dk U)).1,H,?_⟩;have:=Pq (Ma O.hv) U;omega
 .have U:=O.wg w h;have H:=((IT _).1 O.wv).2.1 w h;refine⟨?_,U.1,?_⟩
  .rw[<-L5]at H;unfold yR at H;rw[xM]at H;simp only[bY]at H;exact H.1.1.1.1.1
  .have:=O.wl;have B:=IM w.aM q.aS;have:0<q.aW.length:=List.length_pos_of_mem h;omega
def cJ2{l:List aV}(h:qQ l=true){w:aV}(K:w∈l):pO w=true:=by unfold qQ at h;simp only[bY,cB,dT,eH]at h;obtain⟨i,H,e⟩:=gJ K;have:=(h.2 i H).1;rw[cD,cF H]at this;simp only[Xm,e]at this;exact this
def Qg{r:aJ}{a:aC}(h:mS r a=true)(H:r.aU<=1073741824):okA a:=by rw[rY]at h;unfold okA okI;omega
def W7{q:aA}(h:mZ q=true):OkQ q/\q.aB.name.size<=12:=by
 have H:=((qR q).1 h).1;have L:=BB h;have U:=H.res;unfold resV at U;simp only[bY,cB]at U;have B:=xU U.1;have F:=(uC _).1 U.2.1;have Y:q.aB.aU<=1073741824:=om
 refine⟨⟨by omega,by unfold okI;omega,by unfold okI;omega,by unfold okI;omega,H.gen,L.1,L.2.1,L.2.2.1,λ x K=>?_,λ x K=>?_,λ x K=>?_⟩,B⟩
 .have:=((xP _ _).1 H.hv).2.2.1.each x K;exact⟨this.1,Qg this.2 Y⟩
 .have:=W6 H (w:=x) (by unfold ordQ;exact cX.2 (.inl K));have O:=H.cg x K;exact⟨this.1,Qg this.2.1 Y,O.2.2.2.2.1,O.2.2.2.2.2⟩
 .have:=W6 H (w:=x) (by unfold ordQ;exact cX.2 (.inr K));have O:=cJ2 H.wv K;unfold pO at O;simp only[bY,cB]at O;exact⟨this.1,Qg this.2.1 Y,by unfold okI;omega,by unfold okI;omega⟩
def Qh{l:List bR}(h:Ac l=true){n:bR}(H:n∈l):mV n.aM=true/\vE n.bU=true/\okI n.gen:=by unfold Ac at h;rw[dT]at h;obtain⟨i,K,e⟩:=gJ H;have:=h i (eH.2 K);rw[cD,cF K]at this;simp only[Xm,e]at this;unfold Gi at this;simp only[bY,cB]at this;exact⟨this.1.1.1.1,this.1.1.1.2,this.1.1.2,this.1.2⟩
def Mu{e:aR}(h:vE e=true):okE e=true/\fitE e=true:=by
 unfold vE at h;rw[bY]at h;refine⟨?_,h.1⟩;have H:=h.2;unfold qI at H;split at H
 .assumption
 .cases H
def BE{s:aH}(h:nX s=true):OkS s/\∀q∈s.aF,q.aB.name.size<=12:=by unfold nX at h;simp only[bY,cB]at h;obtain⟨U,O,_⟩:=(vF _).1 h.1.1.1;refine⟨⟨U,h.1.1.2,λ q H=>(W7 (O q H)).1,λ n Y=>?_⟩,λ q H=>(W7 (O q H)).2⟩;obtain⟨a,b,c⟩:=Qh h.1.2 Y;exact⟨a,c,(Mu b).1,(Mu b).2⟩
def oD{x:Int}(h:okI x):(encI x).length<=5:=(Dt 4 x.toNat (by have:=h.1;have:=h.2;omega)).2
def Jk{s:ByteArray}(h:s.size<=1024):(encT s).length<=1029:=by have:=(Dt 4 s.size om).2;unfold encT;rw[cC,dK,wK];omega
def BF{p:aK}(h:mV p=true):(encP p).length<=15:=by obtain⟨a,b,c⟩:=Jh h;have:=oD a;have:=oD b;have:=oD c;unfold encP;simp only[cC];omega
def Mv{a:aC}(h:okA a):(encA a).length<=10:=by have:=oD h.1;have:=oD h.2;unfold encA;simp only[cC];omega
def wL{α:Type}{f:α->List Int}{c:Nat}:∀{l:List α},(∀x∈l,(f x).length<=c)->(l.flatMap f).length<=c*l.length
 |[],_=>by simp
 |x::l,h=>by have H:=h x (.head _);have O:=wL (l:=l) λ y K=>h y (.tail _ K);rw[eE,cC,lN,mB];omega
def W8:∀(n:Nat) (e:aR),_root_.SizeOf.sizeOf e<n->okE e=true->mW e<=24->((encE e).length:Int)<=1100*mW e
 |0,_,h,_,_=>om
 |n+1,e,h,K,V=>by
  have F:=vG e;have Z:=tO e.bG;rw[Gk,cC]
  by_cases c:e.bG.length=0
  .obtain⟨O,Y,B⟩:=(Jb c).1 K;have:=oD (x:=e.k) (by rw[O];unfold okI;omega);have:=Jk (s:=e.aZ.name) (by have:=xU Y;omega);have:=Mv (zR B);rw[cA O,cC];omega
  .obtain⟨⟨O,Y,B⟩,M⟩:=(Jc c).1 K;have e1:=oD (x:=e.k) (by unfold okI;omega);have e2:=oD (x:=(e.bG.length:Int)) (by unfold okI;omega);rw[bX om,cC];have U:∀l:List aR,(∀k∈l,k∈e.bG)->((l.flatMap encE).length:Int)<=1100*oC l:=by
    intro l;induction l with
    |nil=>intro _;simp[PU]
    |cons k l ih=>intro H;have h1:=W8 n k (xS h (H k (.head _))) (Ji M (H k (.head _))) (by have:=Ja (H k (.head _));omega);have h2:=ih λ y L=>H y (.tail _ L);rw[eE,cC,Dq];omega
   have:=U e.bG λ _ h=>h;omega
def cJd{q:aA}(h:OkQ q):(encQ q).length<=2000:=by
 have H:=h.lh;have O:=h.lc;have lw:=h.lw;have U:=Jk h.name;have Y:=oD h.kind;have B:=oD h.aU;have F:=oD h.home;have M:=oD h.gen;have L:=oD (x:=(q.aS.length:Int)) (by unfold okI;omega);have V:=oD (x:=(q.aN.length:Int)) (by unfold okI;omega);have Z:=oD (x:=(q.aW.length:Int)) (by unfold okI;omega);have b1:=wL (l:=q.aS) (f:=encH) (c:=25) λ x K=>by have:=BF (h.h x K).1;have:=Mv (h.h x K).2;unfold encH;rw[cC];omega
 have b2:=wL (l:=q.aN) (f:=encC) (c:=25) λ x K=>by have:=BF (h.c x K).1;have:=Mv (h.c x K).2.1;unfold encC;rw[cC];omega
 have b3:=wL (l:=q.aW) (f:=encW) (c:=35) λ x K=>by have:=BF (h.w x K).1;have:=Mv (h.w x K).2.1;have:=oD (h.w x K).2.2.1;have:=oD (h.w x K).2.2.2;unfold encW;simp only[cC];omega
 unfold encQ;simp only[cC];omega
def cJe{n:bR}(h:mV n.aM=true/\okI n.gen/\okE n.bU=true/\fitE n.bU=true):(encN n).length<=30000:=by have H:=h.2.2.2;unfold fitE at H;simp only[bY,cB]at H;have:=BF h.1;have:=oD h.2.1;have:=W8 _ n.bU (eQ _) h.2.2.1 H.2;unfold encN;simp only[cC];omega
def Dw{s:aH}(h:OkS s):(encS s).length<=300000:=by have H:=h.lq;have O:=h.ln;have U:=oD (x:=(s.aF.length:Int)) (by unfold okI;omega);have Y:=oD (x:=(s.aY.length:Int)) (by unfold okI;omega);have B:=wL (l:=s.aF) (f:=encQ) (c:=2000) λ x K=>cJd (h.q x K);have F:=wL (l:=s.aY) (f:=encN) (c:=30000) λ x K=>cJe (h.n x K);unfold encS;simp only[cC];omega
abbrev room(l e:List Int):Prop:=l.length+e.length<=4294960000
def room.left{l a b:List Int}(h:room l (a++b)):room l a:=by unfold room at*;rw[cC]at h;omega
def room.right{l a b:List Int}(h:room l (a++b)):room (l++a) b:=by unfold room at*;rw[cC]at h⊢;omega
def zS{l:List Int}{x:Int}(h:okI x)(O:room l (encI x)):uQ l (IntKind.u64.wrap x)=some (l++encI x)/\tL l (IntKind.u64.wrap x)=some (l++encI x):=by unfold room at O;obtain⟨H,U⟩:=h;rw[tF x H om];have:x=((x.toNat:Nat):Int):=(iR H).symm;unfold encI;rw[this,lL];exact⟨WU om om,Qa om om⟩
def sS{l:List Int}{x:Int}(h:okI x)(H:room l (encI x)):qV l x=some (l++encI x):=by unfold qV;rw[(zS h H).2];rfl
def Mw:∀(xs:List Int) (l:List Int),(∀x∈xs,okI x)->xs.length<=1000->room l (xs.flatMap encI)->rJ l xs=some (l++xs.flatMap encI):=by
 intro xs l V L B;unfold rJ;have U:∀k i (H:List Int),i+k=xs.length->room H ((xs.drop i).flatMap encI)->mF (EF xs) (H,(i:Int))=some (H++(xs.drop i).flatMap encI):=by
  intro k;induction k with
  |zero=>
   intro i H Z _;have:i=xs.length:=om
   subst this;rw[mP,iT];unfold EF;rw[bX (by simp)];simp
  |succ k F=>
   intro i H Z O;have K:i<xs.length:=om
   rw[xK xs i 0 K]at O⊢;rw[eE]at O⊢;have Y:=V _ (mX (z:=0) K);rw[mP];unfold EF;simp only;rw[cA (by simpa using K),gdp om];simp only[Qm];rw[(zS Y O.left).1,eF,mK i om];simp only;have:=F (i+1) (H++encI (xs.getD i 0)) om O.right;unfold EF at this;rw[this,cE]
 have:=U xs.length 0 l om B;rw[show((l,0):List Int×Int)=(l,((0:Nat):Int))from rfl,this];rfl
def Mx{l:List Int}{s:ByteArray}(h:s.size<=1024)(O:room l (encT s)):Cl l s=some (l++encT s)/\Ck l s=some (l++encT s):=by have H:=O;unfold room at H;unfold Cl Ck;unfold encT at O H⊢;rw[cC,dK,wK]at H;rw[tF (s.size:Int) om om,WV om om,WT om om,eF,gdp (by rw[cC,wK];omega),cE];exact⟨rfl,rfl⟩
def BG{l:List Int}{p:aK}(h:mV p=true)(O:room l (encP p)):wZ l p=some (l++encP p)/\m6 l p=some (l++encP p):=by
 obtain⟨Y,B,F⟩:=Jh h;unfold encP at O⊢;have M:=O.left.left;have V:=O.left.right;have U:=O.right;rw[<-cE]at U;constructor
 .unfold wZ;have Z:∀H:List Int,room H (encI p.site)->yT p (H,0)=some (.inl (H++encI p.site,1)):=λ H K=>by
   unfold yT;rw[cA (by simp),gdp (by simp)];show((uQ H (IntKind.u64.wrap p.site)).bind λ v1=>some (Sum.inl (v1,IntKind.i64.wrap (0+1))))=_;rw[(zS Y K).1];rfl
  have t2:∀H:List Int,room H (encI p.inc)->yT p (H,1)=some (.inl (H++encI p.inc,2)):=λ H K=>by unfold yT;rw[cA (by simp),gdp (by simp)];show((uQ H (IntKind.u64.wrap p.inc)).bind λ v1=>some (Sum.inl (v1,IntKind.i64.wrap (1+1))))=_;rw[(zS B K).1];rfl
  have t3:∀H:List Int,room H (encI p.num)->yT p (H,2)=some (.inl (H++encI p.num,3)):=λ H K=>by unfold yT;rw[cA (by simp),gdp (by simp)];show((uQ H (IntKind.u64.wrap p.num)).bind λ v1=>some (Sum.inl (v1,IntKind.i64.wrap (2+1))))=_;rw[(zS F K).1];rfl
  have t4:∀H:List Int,yT p (H,3)=some (.inr H):=λ H=>by unfold yT;rw[bX (by simp)]
  have L:l.length<=4294967296:=by unfold room at O;omega
  rw[gdp L,bX (by simp[h]),mP,Z l M];simp only;rw[mP,t2 _ V];simp only;rw[mP,t3 _ U];simp only;rw[mP,t4];simp only[cE];rfl
 .unfold m6;rw[xM,bX (by simp[h]),(zS Y M).2,eF,(zS B V).2,eF,(zS F U).2];simp only[cE];rfl
def My{l:List Int}{a:aC}(h:okA a)(H:room l (encA a)):n7 l a=some (l++encA a):=by unfold n7;unfold encA at H⊢;rw[sS h.1 H.left,eF,sS h.2 H.right,cE];rfl
def Qi{l:List Int}{a:aC}(h:okA a)(H:room l (encA a)):rJ l [a.mode,a.aU]=some (l++encA a):=by
 have:[a.mode,a.aU].flatMap encI=encA a:=by simp[encA]
 rw[Mw _ l (λ x K=>by
  simp only[cK,eP,gT]at K;rcases K with rfl|rfl
  .exact h.1
  .exact h.2) (by simp) (by rw[this];exact H),this]
def BH{l:List Int}{x:Int}(h:okI x)(H:room l (encI x)):rJ l [x]=some (l++encI x):=by
 have:[x].flatMap encI=encI x:=by simp
 rw[Mw _ l (λ y K=>by rw[dQ.1 K];exact h) (by simp) (by rw[this];exact H),this]
def wM{α:Type}{body:List Int×Int->Option ((List Int×Int)⊕List Int)}{enc:α->List Int}{ok:α->Prop}(l:List α)(z:α)(L:l.length<=1000)
  (Y:∀(i:Nat) acc,i<l.length->ok (l.getD i z)->room acc (enc (l.getD i z))->body (acc,(i:Int))=some (.inl (acc++enc (l.getD i z),((i+1:Nat):Int))))
  (B:∀acc,body (acc,(l.length:Int))=some (.inr acc)) (O:∀x∈l,ok x) (acc:List Int) (F:room acc (l.flatMap enc)):mF body (acc,0)=some (acc++l.flatMap enc):=by
 have U:∀k i (acc:List Int),i+k=l.length->room acc ((l.drop i).flatMap enc)->mF body (acc,(i:Int))=some (acc++(l.drop i).flatMap enc):=by
  intro k;induction k with
  |zero=>
   intro i acc V _;have:i=l.length:=om
   subst this;rw[mP,iT,B];simp
  |succ k M=>
   intro i acc V H;have K:i<l.length:=om
   rw[xK l i z K]at H⊢;rw[eE]at H⊢;rw[mP,Y i acc K (O _ (mX (z:=z) K)) H.left];simp only;rw[M (i+1) _ om H.right,cE]
 exact U l.length 0 acc om F
def Mz:∀(n:Nat) (e:aR),_root_.SizeOf.sizeOf e<n->okE e=true->mW e<=24->∀l,room l (encE e)->EN n l e=some (l++encE e)/\EX n l e=some (l++encE e)
 |0,_,h,_,_,_,_=>om
 |n+1,e,h,V,hn,l,K=>by
  show EM (EN n) l e=_/\EW (EX n) l e=_;unfold EM EW;have hl:=tO e.bG;have h0:=vG e;rw[Gk]at K|-
  by_cases c:e.bG.length=0
  .obtain⟨Y,M,B⟩:=(Jb c).1 V;have U:okI e.k:=by rw[Y];unfold okI;omega
   rw[BH U K.left,sS U K.left,eF,eF];have H:=K.right;rw[cA Y]at H⊢;have ht:=Mx (by have:=xU M;omega) H.left;rw[cA (by simpa using Y),cA (by simpa using Y),ht.1,ht.2,eF,eF,Qi (zR B) H.right,My (zR B) H.right];simp only[cE];exact⟨rfl,rfl⟩
  .obtain⟨⟨Y,M,B⟩,k3⟩:=(Jc c).1 V;have U:okI e.k:=by unfold okI;omega
   have F:¬e.k=0:=om
   rw[BH U K.left,sS U K.left,eF,eF];have H:=K.right;rw[bX F]at H⊢;have hc:okI (e.bG.length:Int):=by unfold okI;omega
   rw[bX (by simpa using F),bX (by simpa using F),BH hc H.left,sS hc H.left,eF,eF];have hF:∀k∈e.bG,okE k=true/\mW k<=24/\_root_.SizeOf.sizeOf k<n:=λ k U=>⟨Ji k3 U,by have:=Ja U;omega,xS h U⟩;have w1:=wM (body:=Hz (EN n) e) (enc:=encE) (ok:=λ k=>okE k=true/\mW k<=24/\_root_.SizeOf.sizeOf k<n) e.bG aR.zero om (λ i O Z L ha=>by
    unfold Hz;simp only;rw[cA (by simpa using Z),gdp om];simp only[Qm];rw[(Mz n _ L.2.2 L.1 L.2.1 O ha).1,eF,mK i om]) (λ O=>by unfold Hz;simp) hF _ H.right
   have w2:=wM (body:=HK (EX n) e) (enc:=encE) (ok:=λ k=>okE k=true/\mW k<=24/\_root_.SizeOf.sizeOf k<n) e.bG aR.zero om (λ i O Z L ha=>by
    unfold HK;simp only;rw[cA (by simpa using Z),gdp om];simp only[Qm];rw[(Mz n _ L.2.2 L.1 L.2.1 O ha).2,eF,mK i om]) (λ O=>by unfold HK;simp) hF _ H.right
   rw[w1,w2];simp only[cE];exact⟨rfl,rfl⟩
def cJq{q:aA}(h:OkQ q){l:List Int}(H:room l (encQ q)):CL l q=some (l++encQ q):=by
 have lh:=h.lh;have lc:=h.lc;have lw:=h.lw;have M:okI (q.aS.length:Int):=by unfold okI;omega
 have o2:okI (q.aN.length:Int):=by unfold okI;omega
 have o3:okI (q.aW.length:Int):=by unfold okI;omega
 unfold CL;unfold encQ at H⊢;rw[(Mx h.name H.left).1,eF]
 replace H:=H.right
 have B:[q.aB.kind,q.aB.aU,q.aB.home,q.gen,(q.aS.length:Int)].flatMap encI=encI q.aB.kind++(encI q.aB.aU++(encI q.aB.home++(encI q.gen++encI (q.aS.length:Int)))):=by simp
 have Y:room (l++encT q.aB.name) ([q.aB.kind,q.aB.aU,q.aB.home,q.gen,(q.aS.length:Int)].flatMap encI):=by rw[B];unfold room at H⊢;simp only[cC]at H⊢;omega
 rw[Mw _ _ (λ x K=>by
  simp only[cK,eP,gT]at K;rcases K with rfl|rfl|rfl|rfl|rfl
  .exact h.kind
  .exact h.aU
  .exact h.home
  .exact h.gen
  .exact M) (by simp) Y,eF,B]
 replace H:=H.right.right.right.right.right
 have U:l++encT q.aB.name++encI q.aB.kind++encI q.aB.aU++encI q.aB.home++encI q.gen++encI (q.aS.length:Int)=l++encT q.aB.name++(encI q.aB.kind++(encI q.aB.aU++(encI q.aB.home++(encI q.gen++encI (q.aS.length:Int))))):=by simp only[cE]
 rw[U]at H;have w3:=wM (body:=HR q) (enc:=encH) (ok:=λ x=>mV x.aM=true/\okA x.aI) q.aS bA.zero om (λ i O V K L=>by
  unfold encH at L⊢;unfold HR;simp only;rw[cA (by simpa using V),gdp om];simp only[Qm];rw[(BG K.1 L.left).1,eF,Qi K.2 L.right,eF,mK i om,cE]) (λ O=>by unfold HR;simp) h.h _ H.left
 rw[w3,eF]
 replace H:=H.right
 unfold Lg;rw[BH o2 H.left,eF]
 replace H:=H.right
 have w2:=wM (body:=HQ q) (enc:=encC) (ok:=λ x=>mV x.aM=true/\okA x.aI/\x.bE=0/\x.bS=0) q.aN aV.zero om (λ i O V K L=>by
  unfold encC at L⊢;unfold HQ;simp only;rw[cA (by simpa using V),gdp om];simp only[Qm];rw[(BG K.1 L.left).1,eF,Qi K.2.1 L.right,eF,mK i om,cE]) (λ O=>by unfold HQ;simp) h.c _ H.left
 rw[w2,eF]
 replace H:=H.right
 unfold Lf;rw[BH o3 H.left,eF]
 replace H:=H.right
 have w1:=wM (body:=HP q) (enc:=encW) (ok:=λ x=>mV x.aM=true/\okA x.aI/\okI x.bE/\okI x.bS) q.aW aV.zero om (λ i O V K L=>by
  have F:∀w:aV,[w.aI.mode,w.aI.aU,w.bE,w.bS].flatMap encI=encA w.aI++(encI w.bE++encI w.bS):=λ w=>by simp[encA]
  unfold encW at L⊢;rw[cE,cE]at L⊢;unfold HP;simp only;rw[cA (by simpa using V),gdp om];simp only[Qm];rw[(BG K.1 L.left).1,eF,Mw _ _ (λ y Z=>by
   simp only[cK,eP,gT]at Z;rcases Z with rfl|rfl|rfl|rfl
   .exact K.2.1.1
   .exact K.2.1.2
   .exact K.2.2.1
   .exact K.2.2.2) (by simp) (by rw[F];exact L.right),eF,mK i om,F]
  simp only[cE]) (λ O=>by unfold HP;simp) h.w _ H
 rw[w1,eF];unfold OC;simp only[cE]
def cJr(s:aH):Bf s=some (if nX s=true then(encS s,0)else([],2)):=by
 unfold Bf;rw[Gj,eF];cases hv:nX s with
 |false=>rfl
 |true=>
  have h:=(BE hv).1;have F:=h.lq;have M:=h.ln;have Z:=Dw h;have H:room [] (encS s):=by unfold room;simp;omega
  simp only[cQ,bZ,cI,cH];unfold encS at H⊢;rw[BH (by unfold okI;omega) H.left,eF]
  replace H:=H.right
  have Y:=wM (body:=Ie s) (enc:=encQ) (ok:=OkQ) s.aF aA.zero om (λ i O V K L=>by
   unfold Ie;simp only;rw[cA (by simpa using V),gdp om];simp only[Qm];rw[cJq K L,eF,mK i om]) (λ O=>by unfold Ie;simp) h.q _ H.left
  rw[Y,eF]
  replace H:=H.right
  unfold Ly;rw[BH (by unfold okI;omega) H.left,eF]
  replace H:=H.right
  have B:=wM (body:=Ic s) (enc:=encN) (ok:=λ n=>mV n.aM=true/\okI n.gen/\okE n.bU=true/\fitE n.bU=true) s.aY bR.zero om (λ i O V K L=>by
   have U:=K.2.2.2;unfold fitE at U;simp only[bY,cB]at U;unfold encN at L⊢;unfold Ic;simp only;rw[cA (by simpa using V),gdp om];simp only[Qm];rw[(BG K.1 L.left).1,eF,BH K.2.1 L.right.left,eF];unfold KU;rw[(Mz _ _ (eQ _) K.2.2.1 U.2 _ L.right.right).1,eF,mK i om];simp only[cE]) (λ O=>by unfold Ic;simp) h.n _ H
  rw[B,eF];unfold OV;simp only[cE,jm]
def cJs(s:aH):Db s=some (if nX s=true then(encS s,0)else([],2)):=by
 unfold Db;rw[Je,eF];cases hv:nX s with
 |false=>rfl
 |true=>
  have h:=(BE hv).1;have M:=h.lq;have ln:=h.ln;have hlen:=Dw h;have O:room [] (encS s):=by unfold room;simp;omega
  simp only[cQ,bZ,cI,cH];unfold encS at O⊢;rw[sS (by unfold okI;omega) O.left,eF]
  replace O:=O.right
  have B:=wM (body:=FL s) (enc:=encQ) (ok:=OkQ) s.aF aA.zero om (λ i acc Z L K=>by
   unfold FL;simp only;rw[cA (by simpa using Z),gdp om];simp only[Qm];have lh:=L.lh;have lc:=L.lc;have lw:=L.lw;unfold encQ at K⊢;rw[(Mx L.name K.left).2,eF]
   replace K:=K.right
   rw[sS L.kind K.left,eF]
   replace K:=K.right
   rw[sS L.aU K.left,eF]
   replace K:=K.right
   rw[sS L.home K.left,eF]
   replace K:=K.right
   rw[sS L.gen K.left,eF]
   replace K:=K.right
   rw[sS (by unfold okI;omega) K.left,eF]
   replace K:=K.right
   have v5:=wM (acc:=acc++encT (s.aF.getD i aA.zero).aB.name++encI (s.aF.getD i aA.zero).aB.kind++encI (s.aF.getD i aA.zero).aB.aU++encI (s.aF.getD i aA.zero).aB.home++encI (s.aF.getD i aA.zero).gen++encI ((s.aF.getD i aA.zero).aS.length:Int)) (body:=Iy s (acc,(i:Int))) (enc:=encH) (ok:=λ x=>mV x.aM=true/\okA x.aI) (s.aF.getD i aA.zero).aS bA.zero om (λ j H U V hb=>by
    unfold encH at hb⊢;unfold Iy;simp only[Qm];rw[cA (by simpa using U),gdp om,(BG V.1 hb.left).2,eF,gdp om,My V.2 hb.right,eF,mK j om,cE]) (λ H=>by unfold Iy;simp) L.h K.left
   rw[v5,eF]
   replace K:=K.right
   unfold LL;simp only[Qm];rw[sS (by unfold okI;omega) K.left,eF]
   replace K:=K.right
   have v4:=wM (body:=Ix s (acc,(i:Int))) (enc:=encC) (ok:=λ x=>mV x.aM=true/\okA x.aI/\x.bE=0/\x.bS=0) (s.aF.getD i aA.zero).aN aV.zero om (λ j H U V hb=>by
    unfold encC at hb⊢;unfold Ix;simp only[Qm];rw[cA (by simpa using U),gdp om,(BG V.1 hb.left).2,eF,gdp om,My V.2.1 hb.right,eF,mK j om,cE]) (λ H=>by unfold Ix;simp) L.c _ K.left
   rw[v4,eF]
   replace K:=K.right
   unfold LJ;simp only[Qm];rw[sS (by unfold okI;omega) K.left,eF]
   replace K:=K.right
   have v3:=wM (body:=Iw s (acc,(i:Int))) (enc:=encW) (ok:=λ x=>mV x.aM=true/\okA x.aI/\okI x.bE/\okI x.bS) (s.aF.getD i aA.zero).aW aV.zero om (λ j H U V hb=>by
    unfold encW at hb⊢;rw[cE,cE]at hb⊢;unfold Iw;simp only[Qm];rw[cA (by simpa using U),gdp om,(BG V.1 hb.left).2,eF,My V.2.1 hb.right.left,eF,sS V.2.2.1 hb.right.right.left,eF,sS V.2.2.2 hb.right.right.right,eF,mK j om];simp only[cE]) (λ H=>by unfold Iw;simp) L.w _ K
   rw[v3,eF];unfold OZ;simp only[mK i (show i<4611686018427387904 by omega),cE]) (λ acc=>by unfold FL;simp) h.q _ O.left
  rw[B,eF]
  replace O:=O.right
  unfold LI;rw[sS (by unfold okI;omega) O.left,eF]
  replace O:=O.right
  have F:=wM (body:=Iv s) (enc:=encN) (ok:=λ n=>mV n.aM=true/\okI n.gen/\okE n.bU=true/\fitE n.bU=true) s.aY bR.zero om (λ i acc Z L K=>by
   have Y:=L.2.2.2;unfold fitE at Y;simp only[bY,cB]at Y;unfold encN at K⊢;unfold Iv;simp only;rw[cA (by simpa using Z),gdp om];simp only[Qm];rw[(BG L.1 K.left).2,eF,gdp om,sS L.2.1 K.right.left,eF,gdp om];unfold K9;rw[(Mz _ _ (eQ _) L.2.2.1 Y.2 _ K.right.right).2,eF,mK i om];simp only[cE]) (λ acc=>by unfold Iv;simp) h.n _ O
  rw[F,eF];unfold OY;simp only[cE,jm]
def Bk.queue:Bk vY encQ:=λ d q d' h he=>by
 unfold vY at h;obtain⟨v1,h1,h⟩:=mG h;obtain⟨v2,h2,h⟩:=mG h;obtain⟨v3,h3,h⟩:=mG h;obtain⟨v4,h4,h⟩:=mG h;obtain⟨v5,h5,h⟩:=mG h;obtain⟨v6,h6,h⟩:=mG h;obtain⟨z3,k3,h⟩:=mG h;unfold Fe at h;obtain⟨v7,h7,h⟩:=mG h;obtain⟨z2,k2,h⟩:=mG h;unfold Fd at h;obtain⟨v8,h8,h⟩:=mG h;obtain⟨z1,k1,h⟩:=mG h;unfold OJ at h;cases h;have n1:∀(n:Int) d q,¬(0<n/\d.bC.err=0)->xE (n,d,q)=some (.inr (d,q)):=λ n d q Y=>by unfold xE;rw[bX (by simpa using Y)]
 have n2:∀(n:Int) d q,¬(0<n/\d.bC.err=0)->xF (n,d,q)=some (.inr (d,q)):=λ n d q Y=>by unfold xF;rw[bX (by simpa using Y)]
 have n3:∀(n:Int) d q,¬(0<n/\d.bC.err=0)->xG (n,d,q)=some (.inr (d,q)):=λ n d q Y=>by unfold xG;rw[bX (by simpa using Y)]
 have e8:=Jj n1 k1 he;have f2:=(Bk.count Om Om h8 e8).1;have e7:=Jj n2 k2 f2;have f3:=(Bk.count Om Om h7 e7).1;have e6:=Jj n3 k3 f3;have e5:=(Bk.count Om Om h6 e6).1;have b5:=Bk.bL _ _ _ h5 e5;have b4:=Bk.bL _ _ _ h4 b5.1;have b3:=Bk.bL _ _ _ h3 b4.1;have b2:=Bk.bL _ _ _ h2 b3.1;have b1:=Bk.text _ _ _ h1 b2.1;refine⟨b1.1,λ hs=>?_⟩;have r1:=b1.2 hs;have s1:=vH r1 hs;have r2:=b2.2 s1;have s2:=vH r2 s1;have r3:=b3.2 s2;have s3:=vH r3 s2;have r4:=b4.2 s3;have s4:=vH r4 s3;have r5:=b5.2 s4;have s5:=vH r5 s4;obtain⟨lh,q3,r6⟩:=Gn (enc:=encH) (λ H=>(⟨⟨v1.1,v2.1,v3.1,v4.1⟩,H,[],[],v5.1⟩:aA)) (λ n d H y B F K=>by
  unfold xG at K;rw[cA (by simp[B,F])]at K;obtain⟨M,L,K⟩:=mG K;obtain⟨U,V,K⟩:=mG K;obtain⟨_,K⟩:=mM K;refine⟨⟨M.1,U.1⟩,U.2,(dH K).symm,λ Z O=>?_⟩;exact(Bk.aM.then L (Bk.aI _ _ _ V Z)).2 O) n3 Om Om h6 rfl k3 f3 s5
 have s6:=vH r6 s5;have s6:=vH rfl s6;obtain⟨lc,q2,r7⟩:=Gn (enc:=encC) (λ H=>(⟨⟨v1.1,v2.1,v3.1,v4.1⟩,lh,H,[],v5.1⟩:aA)) (λ n d H y B F K=>by
  unfold xF at K;rw[cA (by simp[B,F])]at K;obtain⟨M,L,K⟩:=mG K;obtain⟨U,V,K⟩:=mG K;obtain⟨_,K⟩:=mM K;refine⟨{aV.zero with aM:=M.1,aI:=U.1},U.2,(dH K).symm,λ Z O=>?_⟩;exact(Bk.aM.then L (Bk.aI _ _ _ V Z)).2 O) n2 Om Om h7 q3 k2 f2 s6
 have s7:=vH r7 s6;have s7:=vH rfl s7;obtain⟨lw,q1,r8⟩:=Gn (enc:=encW) (λ H=>(⟨⟨v1.1,v2.1,v3.1,v4.1⟩,lh,lc,H,v5.1⟩:aA)) (λ n d H y B F K=>by
  unfold xE at K;rw[cA (by simp[B,F])]at K;obtain⟨M,L,K⟩:=mG K;obtain⟨U,V,K⟩:=mG K;obtain⟨x3,g3,K⟩:=mG K;obtain⟨x4,g4,K⟩:=mG K;obtain⟨_,K⟩:=mM K;refine⟨{{{{aV.zero with aM:=M.1}with aI:=U.1}with bE:=x3.1}with bS:=x4.1},x4.2,(dH K).symm,λ Z O=>?_⟩;have:=(Bk.aM.then L (Bk.aI.then V (Bk.bL.then g3 (Bk.bL _ _ _ g4 Z)))).2 O;unfold encW;simp only[cE]at this⊢;exact this) n1 Om Om h8 q2 k1 he s7
 rw[q1];unfold encQ;simp only[cE];rw[<-r8,<-r7,<-r6,<-r5,<-r4,<-r3,<-r2];exact r1
def Bk.bU:∀(n:Nat) (O:Int),Bk (tN n O) encE
 |0,O=>λ d v F h=>by cases h
 |n+1,O=>λ d v F h Z=>by
  have h:p7 (tN n) O d=some (v,F):=h;unfold p7 at h;have H:∀U:aX,o9 (tN n) O U=some (v,F)->U.bC.err=0/\(Src U.bC.rest->U.bC.rest=encE v++F.bC.rest):=λ U h=>by
   unfold o9 at h;obtain⟨v1,h1,h⟩:=mG h
   by_cases M:v1.2.bC.err=0
   .rw[bX (by simp[M])]at h
    by_cases L:v1.1=0
    .rw[cA (by simpa using L)]at h;obtain⟨v2,h2,h⟩:=mG h;obtain⟨v3,h3,h⟩:=mG h;cases h;have:=Bk.bL.then h1 (Bk.text.then h2 (Bk.aI _ _ _ h3 Z));refine⟨this.1,λ V=>?_⟩;rw[Gk,cA (by exact L)];exact this.2 V
    .rw[bX (by simpa using L)]at h;obtain⟨v4,h4,h⟩:=mG h;obtain⟨z,k,h⟩:=mG h;unfold H1 at h;cases h;have ne:∀(m:Int) d q,¬(0<m/\d.bC.err=0)->xD (tN n) O (m,d,q)=some (.inr (d,q)):=λ m d q hh=>by
      unfold xD;rw[bX (by simpa using hh)]
     have b1:=Bk.bL _ _ _ h1 M;refine⟨b1.1,λ V=>?_⟩;have r1:=b1.2 V;have s1:=vH r1 V;obtain⟨l,q1,r2⟩:=Gn (enc:=encE) (λ Y=>(⟨v1.1,⟨aR.zero.aZ.name,⟨aR.zero.aZ.aI.mode,aR.zero.aZ.aI.aU⟩⟩,Y⟩:aR)) (λ m d Y y hn hd K=>by
      unfold xD at K;rw[cA (by simp[hn,hd])]at K;obtain⟨x1,g1,K⟩:=mG K;obtain⟨_,K⟩:=mM K;refine⟨x1.1,x1.2,(dH K).symm,λ hz B=>?_⟩;exact(Bk.bU n _ _ _ _ g1 hz).2 B) ne Om Om h4 rfl k Z s1
     rw[q1,Gk,bX (by exact L)];simp only[cE];rw[<-r2];exact r1
   .rw[cA (by simpa using M)]at h;cases h;exact absurd Z M
  split at h
  .have:=(H _ h).1;simp at this
  .exact H d h
def cJt{b:List Int}(hb:Src b){s:aH}(h:vZ b=some (s,0)):nX s=true/\b=encS s:=by
 unfold vZ at h;obtain⟨v1,h1,h⟩:=mG h;obtain⟨z2,k2,h⟩:=mG h;unfold Fv at h;obtain⟨v2,h2,h⟩:=mG h;obtain⟨Y,k1,h⟩:=mG h;unfold Ig at h
 by_cases c:Y.1.bC.err=0
 .rw[bX (by simp[c])]at h
  by_cases c2:0<(Y.1.bC.rest.length:Int)
  .rw[cA (by simpa using c2)]at h;cases h
  .rw[bX (by simpa using c2),Gj,eF]at h;cases L:nX Y.2 with
   |false=>rw[L]at h;cases h
   |true=>
    rw[L]at h;cases h;refine⟨L,?_⟩;have n1:∀(n:Int) d q,¬(0<n/\d.bC.err=0)->xH (n,d,q)=some (.inr (d,q)):=λ n d q F=>by unfold xH;rw[bX (by simpa using F)]
    have n2:∀(n:Int) d q,¬(0<n/\d.bC.err=0)->xI (n,d,q)=some (.inr (d,q)):=λ n d q F=>by unfold xI;rw[bX (by simpa using F)]
    have e2:=Jj n1 k1 c;have f2:=(Bk.count Om Om h2 e2).1;obtain⟨lq,q2,r1⟩:=Gn (enc:=encQ) (λ H=>(⟨H,[]⟩:aH)) (λ n d H y M V K=>by
     unfold xI at K;rw[cA (by simp[M,V])]at K;obtain⟨B,Z,K⟩:=mG K;obtain⟨_,K⟩:=mM K;refine⟨B.1,B.2,(dH K).symm,λ hz O=>?_⟩;exact(Bk.queue _ _ _ Z hz).2 O) n2 Om Om h1 rfl k2 f2 hb
    have s1:=vH rfl (vH r1 hb);obtain⟨ln,q1,r2⟩:=Gn (enc:=encN) (λ H=>(⟨lq,H⟩:aH)) (λ n d H y M V K=>by
     unfold xH at K;rw[cA (by simp[M,V])]at K;obtain⟨B,Z,K⟩:=mG K;obtain⟨x2,g2,K⟩:=mG K;obtain⟨x3,g3,K⟩:=mG K;obtain⟨_,K⟩:=mM K;refine⟨{{{bR.zero with aM:=B.1}with gen:=x2.1}with bU:=x3.1},x3.2,(dH K).symm,λ hz O=>?_⟩;exact(Bk.aM.then Z (Bk.bL.then g2 (Bk.bU _ _ _ _ _ g3 hz))).2 O) n1 Om Om h2 q2 k1 c s1
    rw[q1];have U:Y.1.bC.rest=[]:=dA om;rw[U,dY]at r2;unfold encS;simp only;rw[<-r2];exact r1
 .rw[cA (by simpa using c)]at h;simp only[cY,hY]at h;exact absurd h.2 c
def W9(nm:ByteArray)(h:bA):bN:=⟨1,h.aM,nm,h.aI⟩
def uF(nm:ByteArray)(l:List bA):List bN:=l.map (W9 nm)
def Dx(p:aK)(nm:ByteArray)(a:aC):bN:=⟨3,p,nm,a⟩
def MA(nm:ByteArray)(l:List bA)(K:l.length<=1000000):vS nm l=some (uF nm l):=by
 unfold vS;rw[BC l bA.zero (W9 nm) [] K (by simp) (λ i s L U=>by
  unfold KB;have H:0<=(i:Int)/\(i:Int)<(l.length:Int):=om
  have O:s.length+1<=4294967296:=om
  simp only[O,H.1,H.2,cW,fD,mR,cG,cH,lL,mK i (show i<4611686018427387904 by omega)];rfl) (λ s=>by unfold KB;simp)]
 rfl
def Dy(t:List aA)(i:Int)(q:aA):List aA:=if 0<=i then t.set i.toNat q else t
def Lens(t:List aA):Prop:=∀q∈t,q.aS.length<=1000/\q.aN.length<=1000/\q.aW.length<=1000
def Qj(t:List aA)(i:Int)(q:aA)(K:t.length<=1000)(H:0<=i)(hi:i<t.length):yP t i q=some (Dy t i q):=by unfold yP Dy;rw[mL om,mL om,cA H]
def ValidT.lens{t:List aA}(h:ValidT t):Lens t:=λ q H=>by have:=BB (h.each q H);omega
abbrev ResT:=List aA×List bN×Int
def errT(e:Int):ResT:=([],[],e)
def putT(t:List aA)(nm:ByteArray)(x:aA×List bA×Int)(ev:List bN):ResT:=if x.2.2=0 then(Dy t (nS t nm) x.1,ev++uF nm x.2.1,0)else errT x.2.2
def atT(t:List aA)(nm:ByteArray)(f:aA->ResT):ResT:=if wI t=false then errT 2 else if nS t nm<0 then errT 10 else f (t.getD (nS t nm).toNat aA.zero)
def wN(t:List aA)(p:aK):Bool:=decide (8<=(oN t).length)&&!decide (p∈oN t)
def vI(t:List aA)(p:aK)(a:aO)(pr:Int):ResT:=atT t a.name λ q=>if wN t p=true then errT 4 else putT t a.name (qM q p a.aI pr) []
def Ad(t:List aA)(p:aK)(nm:ByteArray):ResT:=atT t nm λ q=>putT t nm (pY q p) []
def qZ(t:List aA)(p:aK)(a:aO):ResT:=atT t a.name λ q=>putT t a.name (oQ q p a.aI) (if getH q.aS p=a.aI then[]else[Dx p a.name a.aI])
def nd0{P:Prop}[Decidable P](h:P):¬((!decide P)=true):=by simp[h]
def nd1{P:Prop}[Decidable P](h:¬P):(!decide P)=true:=by simp[h]
def Jl{t:List aA}{nm:ByteArray}(h:¬nS t nm<0):0<=nS t nm/\nS t nm<t.length:=by
 rcases I5 (t:=t) (nm:=nm)with H|⟨i,H,O,_⟩
 .omega
 .omega
def cK5{t:List aA}(h:ValidT t){nm:ByteArray}(H:¬nS t nm<0):mZ (t.getD (nS t nm).toNat aA.zero)=true:=by have:=Jl H;exact h.each _ (mX om)
def cK6(t:List aA)(p:aK)(a:aO)(pr:Int):FF t p a pr=some (vI t p a pr):=by
 unfold FF vI atT;rw[I6,eF];cases L:wI t with
 |false=>rfl
 |true=>
  have h:=(z6 t).1 L;have V:=h.len;have M:=h.aD;rw[ifNT,ifTF,z7 _ _ om,eF]
  by_cases H:nS t a.name<0
  .rw[cA (cP H),cA H];rfl
  .have hr:=Jl H;have O:=Wh (t.getD (nS t a.name).toNat aA.zero) p a.aI pr;rw[bX (by rw[cB];exact H),bX H,Ml V h.each,eF,Wd _ _ om];have Z:decide (((oN t).length:Int)=8)=decide (8<=(oN t).length):=by rw[jG];omega
   rw[Z];have U:wN t p=(decide (8<=(oN t).length)&&!decide (p∈oN t)):=rfl;have Y:((if decide (8<=(oN t).length)=true then some (decide (p∈oN t))else some false):Option Bool).bind (λ v4=>if(decide (8<=(oN t).length)&&!v4)=true then some (([],[],4):ResT)else gd (0<=nS t a.name/\nS t a.name<(t.length:Int))<|(u6 (t.getD (nS t a.name).toNat aA.zero) p a.aI pr).bind λ v5=>if(!decide (v5.2.2=0))=true then some (([],[],v5.2.2):ResT)else(yP t (nS t a.name) v5.1).bind λ v6=>(vS a.name v5.2.1).bind λ B=>some ((v6,B,0):ResT))=
     if wN t p=true then some (errT 4)else gd (0<=nS t a.name/\nS t a.name<(t.length:Int))<|(u6 (t.getD (nS t a.name).toNat aA.zero) p a.aI pr).bind λ v5=>if(!decide (v5.2.2=0))=true then some (([],[],v5.2.2):ResT)else(yP t (nS t a.name) v5.1).bind λ v6=>(vS a.name v5.2.1).bind λ B=>some ((v6,B,0):ResT):=by
    rw[U]
    by_cases F:8<=(oN t).length
    .simp only[F,cG,cH,qm,cL];rfl
    .simp only[F,cO,bZ,cI,qm,eY]
   refine Eq.trans Y ?_;cases K:wN t p with
   |true=>rfl
   |false=>
    rw[ifFT,mL om,cD8,eF];unfold putT;simp only[bZ,cI]
    by_cases e:(qM (t.getD (nS t a.name).toNat aA.zero) p a.aI pr).2.2=0
    .rw[bX (nd0 e),cA e,Qj _ _ _ om om om,eF,MA _ _ (by have:=O.2.2.2;omega)];rfl
    .rw[cA (nd1 e),bX e];rfl
def cK7(t:List aA)(p:aK)(nm:ByteArray):FC t p nm=some (Ad t p nm):=by
 unfold FC Ad atT;rw[I6,eF];cases K:wI t with
 |false=>rfl
 |true=>
  have h:=(z6 t).1 K;have L:=h.len;rw[ifNT,ifTF,z7 _ _ om,eF]
  by_cases H:nS t nm<0
  .rw[cA (cP H),cA H];rfl
  .have U:=Jl H;have O:=Wi (t.getD (nS t nm).toNat aA.zero) p;rw[bX (by rw[cB];exact H),bX H,mL om,cD9,eF];unfold putT;dsimp only
   by_cases e:(pY (t.getD (nS t nm).toNat aA.zero) p).2.2=0
   .rw[bX (nd0 e),cA e,Qj _ _ _ om om om,eF,MA _ _ (by have:=O.2.2.2;omega)];rfl
   .rw[cA (nd1 e),bX e];rfl
def Qk(t:List aA)(p:aK)(a:aO):t8 t p a=some (qZ t p a):=by
 unfold t8 qZ atT;rw[I6,eF];cases K:wI t with
 |false=>rfl
 |true=>
  have h:=(z6 t).1 K;have L:=h.len;rw[ifNT,ifTF,z7 _ _ om,eF]
  by_cases H:nS t a.name<0
  .rw[cA (cP H),cA H];rfl
  .have V:=Jl H;have B:=cK5 h H;have F:=BB B;have O:=PL (t.getD (nS t a.name).toNat aA.zero) p a.aI;rw[bX (by rw[cB];exact H),bX H,mL om,xO _ _ om,eF,mL om,cDa,eF];unfold putT;have Y:∀ev:List bN,ev.length<=1->(oQ (t.getD (nS t a.name).toNat aA.zero) p a.aI).2.2=0->FE t a (nS t a.name) (oQ (t.getD (nS t a.name).toNat aA.zero) p a.aI) ev=some (Dy t (nS t a.name) (oQ (t.getD (nS t a.name).toNat aA.zero) p a.aI).1,ev++uF a.name (oQ (t.getD (nS t a.name).toNat aA.zero) p a.aI).2.1,0):=λ ev M e=>by
    unfold FE;have hg:(uF a.name (oQ (t.getD (nS t a.name).toNat aA.zero) p a.aI).2.1).length<=16:=by unfold uF;rw[dK];exact O.2.2.2
    rw[Qj _ _ _ om om om,eF,MA _ _ (by have:=O.2.2.2;omega),eF,mL om]
   dsimp only
   by_cases e:(oQ (t.getD (nS t a.name).toNat aA.zero) p a.aI).2.2=0
   .rw[bX (nd0 e),cA e]
    by_cases U:getH (t.getD (nS t a.name).toNat aA.zero).aS p=a.aI
    .rw[bX (nd0 U),cA U,Y [] (by simp) e]
    .rw[cA (nd1 U),bX U,mL Om,Y _ (by simp) e];rfl
   .rw[cA (nd1 e),bX e];rfl
def ascR:List aJ->Option ByteArray->Bool
 |[],_=>true
 |r::l,pv=>resV r&&((match pv with|none=>true|some n=>decide (ltN n r.name))&&ascR l (some r.name))
def Xa:∀(l:List aJ) (H:Option ByteArray),ascR l H=true↔(∀r∈l,resV r=true)/\l.Pairwise (λ a b=>ltN a.name b.name)/\∀n,H=some n->∀r∈l,ltN n r.name
 |[],H=>by simp only[ascR,eP,kB,fD,jK,gG,true_iff];exact .nil
 |q::t,H=>by
  simp only[ascR,bY];rw[Xa t (some q.name)];constructor
  .rintro⟨Y,O,B,K,M⟩;refine⟨λ x hx=>?_,dF.2 ⟨λ x hx=>M _ rfl x hx,K⟩,λ n F x hx=>?_⟩
   .rcases cK.1 hx with rfl|hx
    .exact Y
    .exact B x hx
   .subst F;simp only[cB]at O;rcases cK.1 hx with rfl|hx
    .exact O
    .exact Wq O (M _ rfl x hx)
  .rintro⟨Y,O,B⟩;have U:=dF.1 O;refine⟨Y q (.head _),?_,λ x hx=>Y x (.tail _ hx),U.2,λ n F x hx=>by cases F;exact U.1 x hx⟩;cases H with
   |none=>rfl
   |some n=>exact cP (B n rfl q (.head _))
def catV(l:List aJ):Bool:=decide (l.length<=8)&&ascR l none
def cKa(l:List aJ):catV l=true↔l.length<=8/\(∀r∈l,resV r=true)/\l.Pairwise (λ a b=>ltN a.name b.name):=by unfold catV;rw[bY,cB,Xa];simp
def cKb(O:List aJ):∀(t H:List aJ),O=H++t->
  walk (λ i q (_:Unit)=>some (if resV q=true/\(i=0\/ltN (O.getD (i-1) aJ.zero).name q.name)then Sum.inl ()else Sum.inr (Sum.inr (α:=Unit) false))) (λ _=>Sum.inl (β:=Bool) ()) t H.length ()=
   some (if ascR t (H.getLast?.map (·.name))=true then .inl ()else .inr false):=by
 intro t;induction t with
 |nil=>intro H _;simp[walk,ascR]
 |cons q t F=>
  intro H K;simp only[walk];have B:(H.length=0\/ltN (O.getD (H.length-1) aJ.zero).name q.name)↔(match H.getLast?.map (·.name)with|none=>true|some n=>decide (ltN n q.name))=true:=by
   by_cases U:H=[]
   .subst U;simp
   .have M:=Ws H (q::t) aJ.zero U;rw[K,M,kE U];have:H.length≠0:=λ e=>U (dA e);simp[this]
  by_cases e:resV q=true/\(H.length=0\/ltN (O.getD (H.length-1) aJ.zero).name q.name)
  .rw[cA e];have:=F (H++[q]) (by rw[K];simp);rw[show(H++[q]).length=H.length+1 by simp]at this;simp only;have L:ascR (q::t) (H.getLast?.map (·.name))=ascR t (some q.name):=by simp only[ascR,e.1,B.1 e.2,cL]
   rw[this,L];simp
  .rw[bX e];rw[B]at e;have V:ascR (q::t) (H.getLast?.map (·.name))=false:=by
    rw[dI];intro Y;simp only[ascR,bY]at Y;exact e ⟨Y.1,Y.2.1⟩
   rw[V];rfl
def cKc{body:Int->Option (Int⊕(Unit⊕Bool))}(t:List aJ)(L:t.length<=8)
  (hb:∀i:Nat,i<t.length->body (i:Int)=some (if resV (t.getD i aJ.zero)=true/\(i=0\/ltN (t.getD (i-1) aJ.zero).name (t.getD i aJ.zero).name)then .inl ((i+1:Nat):Int)else .inr (.inr false)))
  (O:body (t.length:Int)=some (.inr (.inl ()))):mF body 0=some (if ascR t none=true then .inl ()else .inr false):=by
 have H:=xL (body:=body) t aJ.zero (λ i (_:Unit)=>(i:Int)) (λ i q _=>some (if resV q=true/\(i=0\/ltN (t.getD (i-1) aJ.zero).name q.name)then Sum.inl ()else Sum.inr (Sum.inr (α:=Unit) false))) (λ _=>Sum.inl (β:=Bool) ())
  (λ i s K=>by
   rw[hb i K,lS];split<;>rfl) (λ s=>O) ()
 have:=cKb t t [] rfl;rw[show(0:Int)=(λ(i:Nat) (_:Unit)=>(i:Int)) 0 ()from rfl,H];exact this
def Xb(t:List aJ):A3 t=some (catV t):=by
 unfold A3 catV
 by_cases U:8<t.length
 .have:¬t.length<=8:=om
  rw[cA (by simp;omega)];simp[this]
 .have K:t.length<=8:=om
  rw[bX (by simp;omega),cKc t K (λ i L=>by
   unfold Lh;have H:0<=(i:Int)/\(i:Int)<(t.length:Int):=om
   simp only[H.1,H.2,cW,fD,mR,cG,cH,lL,VD,eF,mK i om]
   by_cases O:i=0
   .subst O;rw[mL (by simp)];cases resV (t.getD 0 aJ.zero)<;>simp
   .rw[w9 i om om,mL (by intro _;omega)];simp only[lL,show(0:Int)<(i:Int)by omega,cG,cL,O,jO];unfold ltN;rcases hb (resV (t.getD i aJ.zero))with b1|b1<;>rcases hb (Op.bytesLess (t.getD (i-1) aJ.zero).name.toList (t.getD i aJ.zero).name.toList)with b2|b2<;>simp[b1,b2,-List.getD_eq_getElem?_getD]) (by unfold Lh;simp)]
  simp only[K,cG,cL];cases V:ascR t none<;>rfl
def newT(l:List aJ):List aA×Int:=if catV l=true then(l.map Wn,0)else([],1)
def cKe(l:List aJ):C1 l=some (newT l):=by
 unfold C1 newT;rw[Xb,eF];cases h:catV l with
 |false=>rfl
 |true=>
  have K:=((cKa l).1 h).1;rw[ifNT,BC l aJ.zero Wn [] om (by simp) (λ i s L U=>by
   unfold Ll;have H:0<=(i:Int)/\(i:Int)<(l.length:Int):=om
   have O:s.length+1<=4294967296:=om
   simp only[O,H.1,H.2,cW,mR,cG,cH,lL,mK i (show i<4611686018427387904 by omega)];rfl) (λ s=>by unfold Ll;simp)]
  rfl
def MB{α:Type}(l:List α)(i:Nat)(z:α)(h:i<l.length):l.set i (l.getD i z)=l:=by rw[cD,cF h,Xm,List.set_getElem_self]
def cKg{body:Int×List aA×List bN->Option ((Int×List aA×List bN)⊕(List aA×List bN))}(t:List aA)(f:aA->aA)(e:aA->List bN)(hl:t.length<=1000)(F:∀q∈t,(e q).length<=100)
  (hb:∀(i:Nat) (s:List aA) (ev:List bN),i<t.length->s.length=t.length->s.getD i aA.zero=t.getD i aA.zero->ev.length<=100000->body ((i:Int),s,ev)=some (.inl (((i+1:Nat):Int),s.set i (f (t.getD i aA.zero)),ev++e (t.getD i aA.zero))))
  (H:∀(s:List aA) (ev:List bN),s.length=t.length->body ((t.length:Int),s,ev)=some (.inr (s,ev))):mF body (0,t,[])=some (t.map f,t.flatMap e):=by
 have Y:∀i,i<=t.length->((t.take i).flatMap e).length<=100*i:=by
  intro i;induction i with
  |zero=>intro _;simp
  |succ i M=>intro L;rw[Wo (z:=aA.zero) om,iS,cC];have:=M om;have h2:=F _ (mX (z:=aA.zero) (show i<t.length by omega));simp only[eE,lB,dY];omega
 obtain⟨x,V,Z⟩:=nZ (body:=body) (λ g=>∃i:Nat,i<=t.length/\g=((i:Int),(t.take i).map f++t.drop i,(t.take i).flatMap e)) (λ g=>t.length-g.1.toNat) (λ x=>x=(t.map f,t.flatMap e)) (by
  rintro g ⟨i,L,rfl⟩;have O:((t.take i).map f++t.drop i).length=t.length:=by rw[cC,dK,dD,dS];omega
  by_cases K:i<t.length
  .left;have U:((t.take i).map f).length=i:=by rw[dK,dD];omega
   have B:t.drop i=t.getD i aA.zero::t.drop (i+1):=by rw[gN K,cD,cF K];rfl
   have hg:((t.take i).map f++t.drop i).getD i aA.zero=t.getD i aA.zero:=by rw[cD,fE om,U,hJ,B];rfl
   refine⟨_,hb i _ _ K O hg (by have:=Y i L;omega),⟨i+1,by omega,?_⟩,by simp only[Qm];omega⟩;rw[Wo (z:=aA.zero) K,fL,iS];congr 2
   .rw[iI _ _ om,U,hJ,B];simp
   .simp
  .right;have:i=t.length:=om
   subst this;refine⟨_,H _ _ O,?_⟩;simp) (0,t,[]) ⟨0,by omega,by simp⟩
 rw[V,Z]
def remE(p:aK)(q:aA):List bN:=if(pQ q p).2.2=0 then(if getH q.aS p=aC.zero then[]else[Dx p q.aB.name aC.zero])++uF q.aB.name (pQ q p).2.1 else[]
def remT(t:List aA)(p:aK):List aA×List bN:=if wI t=true then(t.map (remN · p),t.flatMap (remE p))else([],[])
def Gp(nm:ByteArray)(l:List bA):(uF nm l).length=l.length:=by unfold uF;rw[dK]
def Xc(p:aK)(q:aA):(remE p q).length<=17:=by
 unfold remE;have:=(Wj q p).2.2.2;split
 .rw[cC,Gp];split<;>simp<;>omega
 .simp
def MC{q:aA}(h:mZ q=true)(p:aK):(remN q p).aB=q.aB:=
 (V8 h (p:=p) (x:={p with num:=p.num+1}) λ e=>by
  have H:p.num+1=p.num:=dZ aK.num e;omega).2
def cKk(t:List aA)(p:aK):C8 t p=some (remT t p):=by
 unfold C8 remT;rw[I6,eF];cases L:wI t with
 |false=>rfl
 |true=>
  have h:=(z6 t).1 L;have hl:=h.len;rw[ifNT,cA rfl,mL om,cKg t (remN · p) (remE p) om (λ q _=>by have:=Xc p q;omega) (λ i s ev V B hg x0=>by
   have U:=h.each _ (mX (z:=aA.zero) V);have y0:=BB U;have z0:=(Wj (t.getD i aA.zero) p).2.2.2;have O:0<=(i:Int)/\(i:Int)<((s.length:Nat):Int):=om
   have Z:=MC U p;unfold Ip;simp only[lL,hg];rw[cA (cP O.2),mL O,PK _ _ om om om,eF];cases K:hasQ (t.getD i aA.zero) p with
   |false=>
    have e:=PE U K;have F:(pQ (t.getD i aA.zero) p).2.2≠0:=by rw[e];decide
    unfold remE remN;rw[bX F,bX F,cA (show(!false)=true from rfl),mK i om,dY,<-hg,MB _ _ _ om]
   |true=>
    have e:=Mh U K;rw[ifNT,mL O,xO _ _ om,eF];have hz:oG (getH (t.getD i aA.zero).aS p)=decide (getH (t.getD i aA.zero).aS p=aC.zero):=rfl;rw[hz];unfold remE;rw[cA e.1];have M:∀H:List bN,H.length<=1000000->Io p ((i:Int),s,ev) H=some (.inl (((i+1:Nat):Int),s.set i (remN (t.getD i aA.zero) p),H++uF (t.getD i aA.zero).aB.name (pQ (t.getD i aA.zero) p).2.1)):=λ H h0=>by unfold Io;simp only[lL,hg];rw[mL O,Wf,eF,mL O,e.2,Z,MA _ _ om,eF,mL (by rw[Gp];omega),mK i om]
    by_cases Y:getH (t.getD i aA.zero).aS p=aC.zero
    .rw[bX (nd0 Y),cA Y,M _ om,lP]
    .rw[cA (nd1 Y),bX Y,mL O,mL om,M _ (by simp;omega),cE];rfl) (λ s ev B=>by
   unfold Ip;simp only;rw[bX (by rw[cB,B];omega)])]
  rfl
def Gq{t:List aA}(h:∀q∈t,mZ q=true){p:aK}:p∈oN t↔∃q∈t,hasQ q p=true:=by
 unfold oN;rw[Gf,fN];constructor
 .rintro⟨q,H,O⟩;exact⟨q,H,(We ((qR q).1 (h q H)).1).1 O⟩
 .rintro⟨q,H,O⟩;exact⟨q,H,(We ((qR q).1 (h q H)).1).2 O⟩
def Ql(t:List aA):(oN t).Nodup:=IZ (IY _)
def ValidT.map{t:List aA}(h:ValidT t)(f:aA->aA)(Y:∀q∈t,mZ (f q)=true)(O:∀q∈t,(f q).aB=q.aB)(B:∀q∈t,∀p,hasQ (f q) p=true->hasQ q p=true):ValidT (t.map f):=by
 have U:∀q∈t.map f,mZ q=true:=λ q H=>by obtain⟨x,K,rfl⟩:=cR.1 H;exact Y x K
 refine⟨by rw[dK];exact h.len,U,?_,?_⟩
 .have:=h.asc;unfold AscN at*;rw[kU];exact this.imp_of_mem λ{a b} Z hb L=>by rw[O a Z,O b hb];exact L
 .refine dG (eT (Ql _) λ x K=>?_) h.aD;obtain⟨q,H,F⟩:=(Gq U).1 K;obtain⟨y,V,rfl⟩:=cR.1 H;exact(Gq h.each).2 ⟨y,V,B y V x F⟩
def Qn{t:List aA}(h:ValidT t)(p:aK):remT t p=(t.map (remN · p),t.flatMap (remE p)):=by unfold remT;rw[cA ((z6 t).2 h)]
def cKo{t:List aA}(h:ValidT t)(p:aK):ValidT (remT t p).1:=by rw[Qn h];exact h.map _ (λ q H=>V7 (h.each q H) p) (λ q H=>MC (h.each q H) p) λ q H x K=>((V9 (h.each q H) p x).1 K).1
def cKp{t:List aA}(h:ValidT t)(p:aK):(remT t p).2.length<=136:=by
 rw[Qn h];have:∀l:List aA,(l.flatMap (remE p)).length<=17*l.length:=by
  intro l;induction l with
  |nil=>simp
  |cons q l H=>rw[eE,cC,lN];have:=Xc p q;omega
 have O:=this t;have U:=h.len;show(t.flatMap (remE p)).length<=136;omega
inductive StepQ (q:aA):aA->Prop where
 |same:StepQ q q
 |claim (p:aK) (a:aC) (pr:Int) (h:(qM q p a pr).2.2=0):StepQ q (qM q p a pr).1
 |cancel (p:aK) (h:(pY q p).2.2=0):StepQ q (pY q p).1
 |lower (p:aK) (a:aC) (h:(oQ q p a).2.2=0):StepQ q (oQ q p a).1
 |remove (p:aK) (h:(pQ q p).2.2=0):StepQ q (pQ q p).1
def Dz{q x:aA}(h:mZ q=true)(K:StepQ q x):mZ x=true/\x.aB=q.aB:=by
 have U:∀y:aA,(rZ y).1.aB=y.aB:=λ y=>(V0 y).2;cases K with
 |same=>exact⟨h,rfl⟩
 |claim p a B O=>
  obtain⟨_,_,_,_,_,Y⟩:=Me O;rcases Y with⟨_,e⟩|⟨_,_,e,H⟩|⟨_,_,_,e,H⟩
  .rw[e];exact⟨h,rfl⟩
  .rw[e,U];exact⟨Gd H,rfl⟩
  .rw[e,U];exact⟨Gd H,rfl⟩
 |cancel p O=>obtain⟨_,_,_,e,H⟩:=IV O;rw[e,U];exact⟨Gd H,rfl⟩
 |lower p a O=>
  obtain⟨_,_,_,_,_,Y⟩:=Ge O;rcases Y with⟨_,e⟩|⟨_,e,H⟩
  .rw[e];exact⟨h,rfl⟩
  .rw[e,U];exact⟨Gd H,rfl⟩
 |remove p O=>obtain⟨_,_,_,e,H⟩:=Py O;rw[e,U];exact⟨Gd H,rfl⟩
def MD(q:aA)(x:aK):hasQ (rZ q).1 x=hasQ q x:=by rw[xQ,PA,V6]
def cKs{q:aA}{p:aK}{a:aC}{pr:Int}(h:(qM q p a pr).2.2=0){x:aK}(hx:hasQ (qM q p a pr).1 x=true):hasQ q x=true\/x=p:=by
 obtain⟨_,_,_,_,_,O⟩:=Me h;rcases O with⟨_,e⟩|⟨_,_,e,_⟩|⟨_,_,_,e,_⟩
 .rw[e]at hx;exact .inl hx
 .rw[e,MD,qS]at hx;rcases hx with⟨w,hw,H⟩|hx
  .unfold ordQ claimC at hw;simp only[cX,dQ]at hw;rcases hw with(hw|hw)|hw
   .exact .inl ((qS q x).2 (.inl ⟨w,dW _ hw,H⟩))
   .rw[hw]at H;exact .inr H.symm
   .exact .inl ((qS q x).2 (.inl ⟨w,dJ _ hw,H⟩))
  .exact .inl ((qS q x).2 (.inr hx))
 .rw[e,MD,qS]at hx;rcases hx with⟨w,hw,H⟩|hx
  .unfold ordQ claimW xN at hw;simp only[cX,cK,cR]at hw;rcases hw with hw|hw|hw|⟨y,K,rfl⟩
   .exact .inl ((qS q x).2 (.inl ⟨w,dW _ hw,H⟩))
   .exact .inl ((qS q x).2 (.inl ⟨w,dJ _ (gD hw),H⟩))
   .rw[hw]at H;exact .inr H.symm
   .exact .inl ((qS q x).2 (.inl ⟨y,dJ _ (gU K),H⟩))
  .exact .inl ((qS q x).2 (.inr hx))
def cKt{q:aA}{p:aK}(h:(pY q p).2.2=0){x:aK}(hx:hasQ (pY q p).1 x=true):hasQ q x=true:=by
 obtain⟨_,_,_,e,_⟩:=IV h;rw[e,MD,qS]at hx;rcases hx with⟨w,hw,H⟩|hx
 .unfold ordQ zM at hw;simp only[cX,Dl]at hw;rcases hw with hw|hw
  .exact(qS q x).2 (.inl ⟨w,dW _ hw.1,H⟩)
  .exact(qS q x).2 (.inl ⟨w,dJ _ hw.1,H⟩)
 .exact(qS q x).2 (.inr hx)
def cKu{q:aA}{p:aK}{a:aC}(h:(oQ q p a).2.2=0){x:aK}(hx:hasQ (oQ q p a).1 x=true):hasQ q x=true:=by
 obtain⟨_,_,H,_,_,O⟩:=Ge h;rcases O with⟨_,e⟩|⟨_,e,_⟩
 .rw[e]at hx;exact hx
 .rw[e,MD,qS]at hx;rcases hx with hx|hx
  .exact(qS q x).2 (.inl hx)
  .refine(qS q x).2 (.inr ?_)
   by_cases e:x=p
   .rw[e];exact H
   .unfold wH at hx;rwa [zK e]at hx
def ValidT.set{t:List aA}(h:ValidT t){i:Nat}(hi:i<t.length){q:aA}(p:aK)(h1:mZ q=true)(h2:q.aB=(t.getD i aA.zero).aB)(h3:∀x,hasQ q x=true->x∈oN t\/x=p)
  (V:wN t p=false):ValidT (t.set i q):=by
 have Z:∀y∈t.set i q,mZ y=true:=λ y L=>by
  rcases iL L with L|rfl
  .exact h.each y L
  .exact h1
 refine⟨by rw[dV];exact h.len,Z,?_,?_⟩
 .have ha:=h.asc;unfold AscN at*;rw[eZ]at ha⊢;have hr:∀k (U:k<(t.set i q).length),((t.set i q)[k]).aB=(t[k]'(by rw[dV]at U;exact U)).aB:=λ k U=>by
   rw[List.getElem_set];split
   .next e=>subst e;rw[h2,cD,cF hi];rfl
   .rfl
  intro a b Y B F;rw[hr a Y,hr b B];exact ha a b _ _ F
 .have H:∀x∈oN (t.set i q),x∈oN t\/x=p:=λ x K=>by
   obtain⟨y,L,O⟩:=(Gq Z).1 K;rcases iL L with L|rfl
   .exact .inl ((Gq h.each).2 ⟨y,L,O⟩)
   .exact h3 x O
  have M:=h.aD
  by_cases O:p∈oN t
  .refine dG (eT (Ql _) (l₂:=oN t) λ x K=>?_) M;rcases H x K with K|rfl
   .exact K
   .exact O
  .have h5:(oN t).length<8:=by
    unfold wN at V;simp only[O,cO,dO,fG,dE]at V;omega
   have:=eT (Ql (t.set i q)) (l₂:=p::oN t) λ x K=>by
    rcases H x K with K|rfl
    .exact .tail _ K
    .exact .head _
   rw[lN]at this;omega
def Jn{t:List aA}(h:ValidT t){i:Nat}(hi:i<t.length){x:aK}(H:hasQ (t.getD i aA.zero) x=true):x∈oN t:=(Gq h.each).2 ⟨_,mX hi,H⟩
def Xd{t:List aA}{p:aK}(h:p∈oN t):wN t p=false:=by unfold wN;simp[h]
def Jo{t:List aA}{nm:ByteArray}{f:aA->ResT}(h:(atT t nm f).2.2=0):ValidT t/\∃i:Nat,nS t nm=i/\i<t.length/\(t.getD i aA.zero).aB.name=nm/\atT t nm f=f (t.getD i aA.zero):=by
 unfold atT at h⊢;cases K:wI t with
 |false=>rw[K,cA rfl]at h;exact absurd h Om
 |true=>
  rw[K,bX Om]at h;rw[bX Om]
  by_cases O:nS t nm<0
  .rw[cA O]at h;exact absurd h Om
  .rw[bX O];rcases I5 (t:=t) (nm:=nm)with H|⟨i,H,U,Y⟩
   .omega
   .exact⟨(z6 t).1 K,i,H,U,Y,by rw[H];rfl⟩
def Jp{t:List aA}{nm:ByteArray}{x:aA×List bA×Int}{ev:List bN}(h:(putT t nm x ev).2.2=0):x.2.2=0/\putT t nm x ev=(Dy t (nS t nm) x.1,ev++uF nm x.2.1,0):=by
 unfold putT at h|-
 by_cases e:x.2.2=0
 .rw[cA e];exact⟨e,rfl⟩
 .rw[bX e]at h;exact absurd h e
def Gr(t:List aA)(i:Nat)(q:aA):Dy t (i:Int) q=t.set i q:=by unfold Dy;rw[cA om];rfl
def cL0{t:List aA}{p:aK}{a:aO}{pr:Int}(h:(vI t p a pr).2.2=0):∃i:Nat,i<t.length/\(t.getD i aA.zero).aB.name=a.name/\nS t a.name=i/\(qM (t.getD i aA.zero) p a.aI pr).2.2=0/\(vI t p a pr).1=t.set i (qM (t.getD i aA.zero) p a.aI pr).1/\ValidT t/\ValidT (vI t p a pr).1:=by
 unfold vI at h⊢;obtain⟨L,i,Y,H,B,e⟩:=Jo h;rw[e]at h⊢;cases K:wN t p with
 |true=>rw[K,cA rfl]at h;exact absurd h Om
 |false=>
  rw[K,bX Om]at h;rw[bX Om];obtain⟨O,F⟩:=Jp h;rw[F,Y,Gr];have M:=L.each _ (mX (z:=aA.zero) H);have U:=Dz M (.claim p a.aI pr O);refine⟨i,H,B,rfl,O,rfl,L,L.set H p U.1 U.2 (λ x hx=>?_) K⟩;rcases cKs O hx with hx|hx
  .exact .inl (Jn L H hx)
  .exact .inr hx
def cL1{t:List aA}{p:aK}{nm:ByteArray}(h:(Ad t p nm).2.2=0):∃i:Nat,i<t.length/\(Ad t p nm).1=t.set i (pY (t.getD i aA.zero) p).1/\ValidT t/\ValidT (Ad t p nm).1:=by
 unfold Ad at h⊢;obtain⟨K,i,Y,H,Z,e⟩:=Jo h;rw[e]at h⊢;obtain⟨O,B⟩:=Jp h;rw[B,Y,Gr];have F:=K.each _ (mX (z:=aA.zero) H);have U:=Dz F (.cancel p O);obtain⟨_,_,L,_,_⟩:=IV O;have M:hasQ (t.getD i aA.zero) p=true:=by unfold hasQ;rw[L];rfl
 exact⟨i,H,rfl,K,K.set H p U.1 U.2 (λ x V=>.inl (Jn K H (cKt O V))) (Xd (Jn K H M))⟩
def Xe{t:List aA}{p:aK}{a:aO}(h:(qZ t p a).2.2=0):∃i:Nat,i<t.length/\(qZ t p a).1=t.set i (oQ (t.getD i aA.zero) p a.aI).1/\ValidT t/\ValidT (qZ t p a).1:=by unfold qZ at h⊢;obtain⟨K,i,B,H,Z,e⟩:=Jo h;rw[e]at h⊢;obtain⟨O,F⟩:=Jp h;rw[F,B,Gr];have M:=K.each _ (mX (z:=aA.zero) H);have Y:=Dz M (.lower p a.aI O);obtain⟨_,_,U,_,_,_⟩:=Ge O;have L:hasQ (t.getD i aA.zero) p=true:=(qS _ _).2 (.inr U);exact⟨i,H,rfl,K,K.set H p Y.1 Y.2 (λ x V=>.inl (Jn K H (cKu O V))) (Xd (Jn K H L))⟩
def sayE(nm:ByteArray)(a:aC)(e:bO):aC:=if e.name=nm then e.after else a
def nG(l:List bO)(nm:ByteArray):aC:=l.foldl (sayE nm) aC.zero
def vJ{α:Type}{l:List α}{i:Nat}(z:α)(h:i<l.length):l.take (i+1)=l.take i++[l.getD i z]:=by rw[List.take_add_one,cF h,cD,cF h];rfl
def Qo(l:List bO)(e:bO)(nm:ByteArray):nG (l++[e]) nm=if e.name=nm then e.after else nG l nm:=by unfold nG;rw[List.foldl_append];rfl
def ME(a b:ByteArray):(a.toList==b.toList)=decide (a=b):=by
 by_cases h:a=b
 .simp[h]
 .rw[fM h];cases hb:a.toList==b.toList with
  |false=>rfl
  |true=>exact absurd (i6.1 (dL.1 hb)) h
def BI(l:List bO)(nm:ByteArray)(V:l.length<=1000000):tX l nm=some (nG l nm):=by
 unfold tX;obtain⟨x,O,U⟩:=nZ (body:=Kq l nm) (λ g=>∃i:Nat,g.1=i/\i<=l.length/\g.2=nG (l.take i) nm) (λ g=>l.length-g.1.toNat) (λ x=>x=nG l nm)
  (λ g ⟨i,K,L,hg⟩=>by
   obtain⟨B,Y⟩:=g;simp only at K hg;subst K;unfold Kq
   by_cases c:i<l.length
   .left;have H:0<=(i:Int)/\(i:Int)<(l.length:Int):=om
    simp only[H.1,H.2,cW,mR,cG,cH,Qm,ME,cB,mK i (show i<4611686018427387904 by omega)];refine⟨((i+1:Nat),nG (l.take (i+1)) nm),?_,⟨i+1,rfl,c,rfl⟩,by simp only[Qm];omega⟩;rw[vJ bO.zero c,Qo]
    by_cases e:(l.getD i bO.zero).name=nm
    .rw[cA e,cA e]
    .rw[bX e,bX e,hg]
   .right;have e:i=l.length:=om
    refine⟨Y,?_,by rw[hg,e,eU]⟩;simp only[show¬(i:Int)<(l.length:Int)by omega,cO,bZ,cI]) (0,aC.zero) ⟨0,rfl,by omega,rfl⟩
 rw[O,eF,U];rfl
def cL6{α:Type}(l:List α)(z:α){i j:Nat}(hi:i<l.length)(H:j<l.length):((l.set i (l.getD j z)).set j (l.getD i z)).Perm l:=by rw[cD,cD,cF hi,cF H];exact List.set_set_perm hi H
def cL7(O:List ByteArray)(K:O.length<=1000000)(g:Int×List ByteArray)(U:0<=g.1)(Y:g.1<(g.2.length:Int))(H:g.2.Perm O):∃x,mF Hp g=some x/\x.Perm O:=by
 refine nZ (body:=Hp) (λ g=>0<=g.1/\g.1<(g.2.length:Int)/\g.2.Perm O) (λ g=>g.1.toNat) (λ x=>x.Perm O) ?_ g ⟨U,Y,H⟩;rintro⟨i,l⟩ ⟨U,Y,H⟩;simp only at U Y H;have B:=H.length_eq;unfold Hp
 by_cases c:0<i
 .have e:IntKind.i64.wrap (i-1)=i-1:=mH om om;simp only[c,cG,e,cL];rw[gdp (by intro;omega),gdp (by intro;omega)];cases hb:Op.bytesLess (l.getD i.toNat ⟨#[]⟩).toList (l.getD (i-1).toNat ⟨#[]⟩).toList with
  |false=>exact .inr ⟨l,by simp,H⟩
  |true=>left;simp only[cH];rw[gdp ⟨U,Y⟩,gdp om,gdp ⟨U,Y⟩,gdp om];exact⟨_,rfl,⟨by simp only;omega,by simp only[dV];omega,(cL6 l _ om om).trans H⟩,by simp only;omega⟩
 .simp only[c,cO,eY,bZ,cI];rw[gdp (by intro h;cases h),gdp (by intro h;cases h)];exact .inr ⟨l,rfl,H⟩
def DA(nm:ByteArray)(s:List ByteArray):Bool:=s.any λ n=>decide (n=nm)
def Xf{nm:ByteArray}{s:List ByteArray}:DA nm s=true↔nm∈s:=by unfold DA;rw[lA];exact⟨λ⟨n,H,O⟩=>gH O▸H,λ h=>⟨nm,h,by simp⟩⟩
def cLa(l:List bO)(i:Nat)(hi:i<l.length)(s:List ByteArray)(Z:s.length<=1000000)(v:Int×List ByteArray)(L:v=((i:Int),s)):
  mF (Hr l v) (false,0)=some (DA (l.getD i bO.zero).name s):=by
 subst L;obtain⟨x,U,Y⟩:=nZ (body:=Hr l ((i:Int),s)) (λ g=>∃k:Nat,g.2=k/\k<=s.length/\g.1=DA (l.getD i bO.zero).name (s.take k)) (λ g=>s.length-g.2.toNat) (λ x=>x=DA (l.getD i bO.zero).name s)
  (λ g ⟨k,K,V,hg⟩=>by
   obtain⟨B,F⟩:=g;simp only at K hg;subst K;unfold Hr
   by_cases c:k<s.length
   .left;have H:0<=(k:Int)/\(k:Int)<(s.length:Int):=om
    have O:0<=(i:Int)/\(i:Int)<(l.length:Int):=om
    simp only[H.1,H.2,O.1,O.2,cW,fD,mR,cG,cH,Qm,ME,mK k (show k<4611686018427387904 by omega)];refine⟨_,rfl,⟨k+1,rfl,c,?_⟩,by simp only[Qm];omega⟩;rw[vJ (⟨#[]⟩:ByteArray) c,hg];simp only[DA,List.any_append,List.any_cons,List.any_nil,kC]
   .right;have e:k=s.length:=om
    refine⟨B,?_,by rw[hg,e,eU]⟩;simp only[show¬(k:Int)<(s.length:Int)by omega,cO,bZ,cI]) (false,0) ⟨0,rfl,by omega,by simp[DA]⟩
 rw[U,Y]
def Qp(l:List bO)(hl:l.length<=1000000):∃O,yO l=some O/\O.length<=l.length/\∀n,n∈O↔∃e∈l,e.name=n:=by
 unfold yO;obtain⟨x,F,M⟩:=nZ (body:=Hs l) (λ g=>∃i:Nat,g.1=i/\i<=l.length/\g.2.length<=i/\∀n,n∈g.2↔∃e∈l.take i,e.name=n) (λ g=>l.length-g.1.toNat)
  (λ x=>x.length<=l.length/\∀n,n∈x↔∃e∈l,e.name=n)
  (λ g ⟨i,V,Z,L,hg⟩=>by
   obtain⟨g1,H⟩:=g;simp only at V L hg;subst V;unfold Hs
   by_cases c:i<l.length
   .left;have Y:0<=(i:Int)/\(i:Int)<(l.length:Int):=om
    simp only[Y.2,cG,cH];rw[cLa l i c H om _ rfl,eF];unfold Hq;have K:∀n,(∃e∈l.take (i+1),e.name=n)↔n∈H\/n=(l.getD i bO.zero).name:=λ n=>by rw[vJ bO.zero c,hg];simp only[cX,dQ,or_and_right,exists_or,exists_eq_left];exact or_congr lE ⟨Eq.symm,Eq.symm⟩
    by_cases U:(l.getD i bO.zero).name∈H
    .rw[cA (Xf.2 U)];refine⟨_,by rw[mK i om],⟨i+1,rfl,c,by simp only;omega,λ n=>?_⟩,by simp only[Qm];omega⟩;rw[K];exact⟨Or.inl,λ h=>h.elim id λ h=>h▸U⟩
    .rw[bX (λ h=>U (Xf.1 h)),gdp Y,gdp (by simp only;omega)];obtain⟨y,e1,B⟩:=cL7 (H++[(l.getD i bO.zero).name]) (by rw[cC,lT];omega) (IntKind.i64.wrap (((H.length+1:Nat):Int)-1),H++[(l.getD (i:Int).toNat bO.zero).name])
      (by simp only;rw[mH om om];omega) (by simp only[cC,Km];rw[mH om om];omega) (by simp only[Qm];exact jE _)
     rw[e1,eF];unfold Oj;refine⟨_,by rw[mK i om],⟨i+1,rfl,c,by have:=B.length_eq;simp only[cC,Km]at this;simp only;omega,λ n=>?_⟩,by simp only[Qm];omega⟩;rw[K,B.mem_iff,cX,dQ]
   .right;have e:i=l.length:=om
    refine⟨H,?_,by omega,λ n=>by rw[hg,e,eU]⟩;simp only[show¬(i:Int)<(l.length:Int)by omega,cO,bZ,cI]) (0,[]) ⟨0,rfl,by omega,by simp,λ n=>by simp⟩
 exact⟨x,by rw[F,eF];rfl,M⟩
def Qq(l:List bV)(x:Int)(K:l.length<=1000000):∃v,l8 l x=some v/\(v=-1\/0<=v/\v<(l.length:Int)):=by
 unfold l8;rw[PR l bV.zero (λ a=>decide (a.label=x)) (λ i L=>by
  unfold KF;have H:0<=(i:Int)/\(i:Int)<(l.length:Int):=om
  simp only[H.1,H.2,cW,mR,cG,cH,lL,mK i (show i<4611686018427387904 by omega)];split<;>rfl) (by unfold KF;simp)]
 cases h:l.findIdx? λ a=>decide (a.label=x)with
 |none=>exact⟨-1,rfl,.inl rfl⟩
 |some i=>obtain⟨O,_⟩:=iJ.1 h;exact⟨i,rfl,.inr om⟩
structure LedgerP (l:bB):Prop where
 le:l.aQ.length<=72
 ls:l.bI.length<=4
 grow:∀i,i<l.aQ.length->(l.aQ.getD i bO.zero).before=nG (l.aQ.take i) (l.aQ.getD i bO.zero).name/\n8 (l.aQ.getD i bO.zero).before (l.aQ.getD i bO.zero).after=true
 at_:∀s∈l.bI,0<=s.at_/\s.at_<=(l.aQ.length:Int)
def Xg(l:bB)(V:l.bI.length<=4)(i:Nat):(i<l.bI.length->∃b:Bool,EZ l (i:Int)=some (if b=true then .inl ((i+1:Nat):Int)else .inr (.inr false))/\
  (b=true->0<=(l.bI.getD i bV.zero).at_/\(l.bI.getD i bV.zero).at_<=(l.aQ.length:Int)))/\(i=l.bI.length->EZ l (i:Int)=some (.inr (.inl ()))):=by
 refine⟨λ c=>?_,λ c=>?_⟩
 .unfold EZ;have U:0<=(i:Int)/\(i:Int)<(l.bI.length:Int):=om
  simp only[U.1,U.2,cW,mR,cG,cH,Qm];rw[gdp (by
   intro h;simp only[bY,cB]at h;have:=h.2;rw[mH om om];omega)]
  obtain⟨v,K,_⟩:=Qq l.bI ((l.bI.getD i bV.zero).label) om;generalize L:(!(((((decide ((l.bI.getD i bV.zero).label<1))||(decide (99<(l.bI.getD i bV.zero).label)))||(decide ((l.bI.getD i bV.zero).at_<0)))||(decide ((l.aQ.length:Int)<(l.bI.getD i bV.zero).at_)))||((decide (0<(i:Int)))&&(decide ((l.bI.getD i bV.zero).at_<(l.bI.getD ((IntKind.i64.wrap ((i:Int)-1)).toNat) bV.zero).at_)))))=A;have H:(((((decide ((l.bI.getD i bV.zero).label<1))||(decide (99<(l.bI.getD i bV.zero).label)))||(decide ((l.bI.getD i bV.zero).at_<0)))||(decide ((l.aQ.length:Int)<(l.bI.getD i bV.zero).at_)))||((decide (0<(i:Int)))&&(decide ((l.bI.getD i bV.zero).at_<(l.bI.getD ((IntKind.i64.wrap ((i:Int)-1)).toNat) bV.zero).at_))))=!A:=by rw[<-L,Bool.not_not]
  simp only[H];cases A with
  |false=>exact⟨false,by simp,by simp⟩
  |true=>
   simp only[cH,K,qm,cQ,dP];have O:0<=(l.bI.getD i bV.zero).at_/\(l.bI.getD i bV.zero).at_<=(l.aQ.length:Int):=by simp only[cQ,jD,dE]at H;omega
   by_cases e:v=(i:Int)
   .exact⟨true,by simp[e,mK i (show i<4611686018427387904 by omega)],λ _=>O⟩
   .exact⟨false,by simp[e],by simp⟩
 .subst c;unfold EZ;simp
def cLe(l:bB)(K:l.aQ.length<=72)(i:Nat)(c:i<l.aQ.length):∃b:Bool,HM l (i:Int)=some (if b=true then .inl ((i+1:Nat):Int)else .inr (.inr false))/\
  (b=true->(l.aQ.getD i bO.zero).before=nG (l.aQ.take i) (l.aQ.getD i bO.zero).name/\n8 (l.aQ.getD i bO.zero).before (l.aQ.getD i bO.zero).after=true):=by
 unfold HM;have U:0<=(i:Int)/\(i:Int)<(l.aQ.length:Int):=om
 simp only[U.1,U.2,cW,mR,cG,cH,Qm];rw[F7,eF,gdp (λ _=>by simp<;>omega),BI _ _ (by simp;omega)];cases L:oH (l.aQ.getD i bO.zero).name with
 |false=>exact⟨false,by simp,by simp⟩
 |true=>
  simp only[cH,qm,cQ,dP]
  by_cases H:(l.aQ.getD i bO.zero).before=nG (l.aQ.take i) (l.aQ.getD i bO.zero).name
  .have O:decide ((l.aQ.getD i bO.zero).before=nG (l.aQ.take i) (l.aQ.getD i bO.zero).name)=true:=cP H;cases V:n8 (l.aQ.getD i bO.zero).before (l.aQ.getD i bO.zero).after with
   |false=>exact⟨false,by simp only[dO,jS,cH,bZ,cI],λ h=>nomatch h⟩
   |true=>exact⟨true,by simp only[O,cQ,fC,bZ,cI,cH,mK i (show i<4611686018427387904 by omega)],λ _=>⟨H,rfl⟩⟩
  .have O:decide ((l.aQ.getD i bO.zero).before=nG (l.aQ.take i) (l.aQ.getD i bO.zero).name)=false:=fM H;exact⟨false,by simp only[O,dO,fV,cH,bZ,cI],λ h=>nomatch h⟩
def DB{body:Int->Option (Int⊕(Unit⊕Bool))}(n:Nat)(P:Nat->Prop)(h:∀i:Nat,i<n->∃b:Bool,body (i:Int)=some (if b=true then .inl ((i+1:Nat):Int)else .inr (.inr false))/\(b=true->P i))(U:body (n:Int)=some (.inr (.inl ()))):
  mF body 0=some (.inr false)\/mF body 0=some (.inl ())/\∀i,i<n->P i:=by
 obtain⟨x,O,H⟩:=nZ (body:=body) (λ g=>∃i:Nat,g=i/\i<=n/\∀k,k<i->P k) (λ g=>n-g.toNat) (λ x=>x=.inr false\/x=.inl ()/\∀i,i<n->P i)
  (λ g ⟨i,K,L,hg⟩=>by
   subst K
   by_cases c:i<n
   .obtain⟨b,hb,Y⟩:=h i c;cases b with
    |false=>exact .inr ⟨_,hb,.inl rfl⟩
    |true=>exact .inl ⟨_,hb,⟨i+1,rfl,c,λ k B=>by
      rcases kJ k i with h5|h5
      .exact hg k h5
      .have:k=i:=om
       subst this;exact Y rfl⟩,by simp only[Qm];omega⟩
   .have:i=n:=om
    subst this;exact .inr ⟨_,U,.inr ⟨rfl,hg⟩⟩) 0 ⟨0,rfl,by omega,λ k B=>om⟩
 rcases H with rfl|⟨rfl,H⟩
 .exact .inl O
 .exact .inr ⟨O,H⟩
def wO{α:Type}{l:List α}{z x:α}(h:x∈l):∃i,i<l.length/\l.getD i z=x:=by obtain⟨i,H,e⟩:=gC.1 h;exact⟨i,H,by rw[cD,cF H];exact e⟩
def DC(l:bB):∃b,uZ l=some b/\(b=true->LedgerP l):=by
 unfold uZ
 by_cases c:l.aQ.length<=72/\l.bI.length<=4
 .rw[bX (by simp;omega)];rcases DB l.aQ.length _ (λ i K=>cLe l c.1 i K) (by unfold HM;simp)with L|⟨L,V⟩
  .exact⟨false,by rw[L];rfl,by simp⟩
  .rw[L,eF];show∃b,HL l ()=some b/\_;unfold HL;obtain⟨U,Y,_⟩:=Qp l.aQ om;rw[Y,eF]
   by_cases O:(8:Int)<U.length
   .exact⟨false,by rw[cA (by simpa using O)],by simp⟩
   .rw[bX (by simpa using O)];rcases DB l.bI.length _ (λ i K=>(Xg l c.2 i).1 K) ((Xg l c.2 _).2 rfl)with H|⟨H,B⟩
    .exact⟨false,by rw[H];rfl,by simp⟩
    .refine⟨true,by rw[H];rfl,λ _=>⟨c.1,c.2,V,λ s F=>?_⟩⟩;obtain⟨i,K,rfl⟩:=wO (z:=bV.zero) F;exact B i K
 .exact⟨false,by rw[cA (by simp;omega)],by simp⟩
def cLh{α β:Type}{o:Option α}{f:α->β}{b:β}(h:(o.bind λ v=>some (f v))=some b):∃v,o=some v/\f v=b:=by
 cases o with
 |none=>cases h
 |some v=>exact⟨v,rfl,dH h⟩
def MF(e:aR):∃v,qX e=some v/\v.2=vE e:=by have h:=Jd e;unfold Ba at h;exact cLh h
def MG{e:aR}{v:List aO×Bool}(h:qX e=some v):v.1.length<=8:=by
 unfold qX at h;obtain⟨v1,O,h⟩:=mG h
 by_cases c:v1=0
 .rw[cA (by simpa using c)]at h;cases h;simp
 rw[bX (by simpa using c)]at h;obtain⟨v2,U,h⟩:=mG h;cases v2 with
 |inl v2=>cases h;simp
 |inr v2=>
  simp only at h
  by_cases K:((!v2.2)||(decide (8<(v2.1.length:Int))))=true
  .rw[cA K]at h;cases h;simp
  .rw[bX K]at h;have L:v2.1.length<=8:=by
    simp only[dU,cB,lK]at K;omega
   have H:=WN v2 om
   by_cases d:dnN v2.1
   .rw[H.1 d]at h;have:H2 v2 ()=some v:=h;unfold H2 at this;cases this;exact L
   .rw[H.2 d]at h;cases h;simp
def cLk(e:aR)(L:List aO)(S:List Bool)(B:L.length<=1000):∃b,((mF (Ht e L S) 0).bind (λ|.inl z=>Ok z|.inr z=>some z))=some b/\((∀i,S.getD i false=false)->b=false):=by
 obtain⟨x,O,U⟩:=nZ (body:=Ht e L S) (λ g=>∃i:Nat,g=i/\i<=L.length) (λ g=>L.length-g.toNat) (λ x=>∀b,x=.inr b->(∀i,S.getD i false=false)->b=false)
  (λ g ⟨i,K,V⟩=>by
   subst K;unfold Ht
   by_cases c:i<L.length
   .have H:0<=(i:Int)/\(i:Int)<(L.length:Int):=om
    simp only[H.1,H.2,cW,mR,cG,cH,Qm]
    by_cases d:L.getD i aO.zero=e.aZ
    .right;rw[cA (by simpa using d),gdp (by intro h;simp only[cB]at h;simp;omega)];exact⟨_,rfl,λ b hb Y=>by cases hb;rw[Y,iD]⟩
    .left;rw[bX (by simpa using d),mK i om];exact⟨_,rfl,⟨i+1,rfl,c⟩,by simp only[Qm];omega⟩
   .right;simp only[show¬(i:Int)<(L.length:Int)by omega,cO,bZ,cI];exact⟨_,rfl,λ b hb=>by cases hb⟩) 0 ⟨0,rfl,by omega⟩
 rw[O];cases x with
 |inl x=>exact⟨false,rfl,λ _=>rfl⟩
 |inr b=>exact⟨b,rfl,U b rfl⟩
def Xh:∀(n:Nat) (e:aR),_root_.SizeOf.sizeOf e<n->mW e<=24->∀(L:List aO) (S:List Bool),L.length<=1000->∃b,fr_ref08_holds n e L S=some b/\(okE e=true->(∀i,S.getD i false=false)->b=false)
 |0,_,h,_,_,_,_=>om
 |n+1,e,h,hn,L,S,K=>by
  show∃b,Ch (fr_ref08_holds n) e L S=some b/\_;unfold Ch;have hl:=tO e.bG;have x0:=vG e
  by_cases c:e.k=0
  .rw[cA (by simpa using c)];obtain⟨b,O,U⟩:=cLk e L S K;exact⟨b,O,λ _=>U⟩
  .rw[bX (by simpa using c)];obtain⟨x,O,U⟩:=nZ (body:=KK (fr_ref08_holds n) e L S) (λ g=>∃i:Nat,g.2=i/\i<=e.bG.length/\0<=g.1/\g.1<=i/\(okL e.bG=true->(∀i,S.getD i false=false)->g.1=0)) (λ g=>e.bG.length-g.2.toNat)
    (λ x=>okL e.bG=true->(∀i,S.getD i false=false)->x=0)
    (λ g ⟨i,V,hle,Z,h4,hg⟩=>by
     obtain⟨m,g2⟩:=g;simp only at V Z h4 hg;subst V;unfold KK
     by_cases c:i<e.bG.length
     .left;have F:0<=(i:Int)/\(i:Int)<(e.bG.length:Int):=om
      simp only[F.1,F.2,cW,mR,cG,cH,Qm];have Y:=mX (z:=aR.zero) c;obtain⟨b,e1,e2⟩:=Xh n _ (xS h Y) (by have:=Ja Y;omega) L S K;rw[e1,eF,mK i om];cases b with
      |true=>rw[cA rfl,mH om om];exact⟨_,rfl,⟨i+1,rfl,c,by simp only;omega,by simp only;omega,λ H B=>by have:=e2 (Ji H Y) B;cases this⟩,by simp only[Qm];omega⟩
      |false=>rw[bX Om];exact⟨_,rfl,⟨i+1,rfl,c,Z,by simp only;omega,hg⟩,by simp only[Qm];omega⟩
     .right;simp only[show¬(i:Int)<(e.bG.length:Int)by omega,cO,bZ,cI];exact⟨_,rfl,hg⟩) (0,0) ⟨0,rfl,by omega,by simp,by simp,λ _ _=>rfl⟩
   rw[O,eF];refine⟨_,rfl,λ H B=>?_⟩
   by_cases M:e.bG.length=0
   .exact absurd ((Jb M).1 H).1 c
   .have h5:=(Jc M).1 H;rw[U h5.2 B];exact fM om
def Xi{e:aR}(h:vE e=true):mW e<=24:=by have:=(Mu h).2;unfold fitE at this;simp only[bY,cB]at this;omega
def Qr{e:aR}(h:vE e=true){L:List aO}(H:L.length<=1000)(S:List Bool):∃b,f_ref08_holds e L S=some b/\((∀i,S.getD i false=false)->b=false):=by unfold f_ref08_holds;obtain⟨b,O,U⟩:=Xh _ e (eQ _) (Xi h) L S H;exact⟨b,O,U (Mu h).1⟩
def Qs{e:aR}(h:vE e=true)(S:List Bool):∃b,Bc e S=some b/\((∀i,S.getD i false=false)->b=false):=by unfold Bc;obtain⟨v,H,O⟩:=MF e;rw[H,eF,O,h];obtain⟨b,U,Y⟩:=Qr h (L:=v.1) (by have:=MG H;omega) S;rw[cA rfl,U];exact⟨b,by simp,Y⟩
def DD(e:aR):∃l,wA e=some l/\l.length<=8/\qX e=some (l,vE e):=by unfold wA;obtain⟨v,H,O⟩:=MF e;exact⟨v.1,by rw[H];rfl,MG H,by rw[H,<-O]⟩
def cLq(S:List Bool)(v:List aO×Bool)(V:v.1.length<=8)(s0:List Bool)(H:s0.length=v.1.length):∃x,mF (Ik S v) (0,s0)=some x/\x.length=v.1.length:=
 nZ (body:=Ik S v) (λ g=>∃i:Nat,g.1=i/\i<=v.1.length/\g.2.length=v.1.length) (λ g=>v.1.length-g.1.toNat) (λ x=>x.length=v.1.length)
  (λ g ⟨i,K,L,hg⟩=>by
   obtain⟨U,Y⟩:=g;simp only at K hg;subst K;unfold Ik
   by_cases c:i<v.1.length
   .left;have O:0<=(i:Int)/\(i:Int)<(v.1.length:Int):=om
    simp only[O.2,cG,cH,Qm];rw[gdp (by intro h;simp only[cB]at h;omega),gdp om,mK i om];exact⟨_,rfl,⟨i+1,rfl,c,by simp only[dV];exact hg⟩,by simp only[Qm];omega⟩
   .right;simp only[show¬(i:Int)<(v.1.length:Int)by omega,cO,bZ,cI];exact⟨_,rfl,hg⟩) (0,s0) ⟨0,rfl,by omega,H⟩
def cLr{e:aR}(h:vE e=true)(v:List aO×Bool)(Y:v.1.length<=8)(s0:List Bool)(H:s0.length=v.1.length):∃x,mF (Ij e v) (IntKind.i64.wrap ((v.1.length:Int)-1),s0)=some x/\x.length=v.1.length:=
 nZ (body:=Ij e v) (λ g=>-1<=g.1/\g.1<(v.1.length:Int)/\g.2.length=v.1.length) (λ g=>(g.1+1).toNat) (λ x=>x.length=v.1.length)
  (λ g ⟨K,V,hg⟩=>by
   obtain⟨i,s⟩:=g;simp only at K V hg;unfold Ij
   by_cases c:0<=i
   .left;have O:IntKind.i64.wrap (i-1)=i-1:=mH om om;rw[cA (by simpa using c)];simp only[O];rw[gdp om]
    by_cases d:s.getD i.toNat false=true
    .rw[cA d,gdp om];obtain⟨b,U,_⟩:=Qr h (L:=v.1) om (s.set i.toNat false);rw[U,eF,gdp om];refine⟨(i-1,_),rfl,⟨by simp only;omega,by simp only;omega,?_⟩,by simp only;omega⟩;simp only[dV];exact hg
    .rw[bX d];exact⟨(i-1,s),rfl,⟨by simp only;omega,by simp only;omega,hg⟩,by simp only;omega⟩
   .right;simp only[c,cO,bZ,cI];exact⟨_,rfl,hg⟩) _ ⟨by simp only;rw[mH om om];omega,by simp only;rw[mH om om];omega,H⟩
def cLs{e:aR}(h:vE e=true)(S:List Bool){l:List aO}(K:qX e=some (l,vE e)):∃x,Bh e S=some x/\x.length=l.length:=by
 unfold Bh;have V:=MG K;simp only at V;rw[K,eF,gdp (by simp only;omega),h,cA rfl];obtain⟨b,H,_⟩:=Qr h (L:=l) om S;simp only[H,qm];cases b with
 |false=>exact⟨_,rfl,by simp⟩
 |true=>simp only[cQ,fC,bZ,cI];obtain⟨x,O,U⟩:=cLq S (l,true) (by simp only;omega) (List.replicate ((l.length:Int).toNat) false) (by simp);rw[O,eF];unfold LA;obtain⟨y,Y,B⟩:=cLr h (l,true) (by simp only;omega) x U;rw[Y];exact⟨y,rfl,B⟩
def Qt(l:List aG)(p:aK)(L:l.length<=1000):∃v,yN l p=some v/\(v=-1/\(∀x∈l,x.aM≠p)\/∃i:Nat,v=i/\i<l.length/\(l.getD i aG.zero).aM=p):=by
 unfold yN;rw[PR l aG.zero (λ a=>decide (a.aM=p)) (λ i V=>by
  unfold Kp;have H:0<=(i:Int)/\(i:Int)<(l.length:Int):=om
  simp only[H.1,H.2,cW,mR,cG,cH,lL,mK i (show i<4611686018427387904 by omega)];split<;>rfl) (by unfold Kp;simp)]
 cases h:l.findIdx? λ a=>decide (a.aM=p)with
 |none=>refine⟨-1,rfl,.inl ⟨rfl,λ x K e=>?_⟩⟩;have:=kO.1 h x K;simp[e]at this
 |some i=>obtain⟨O,U,_⟩:=iJ.1 h;refine⟨i,rfl,.inr ⟨i,rfl,O,?_⟩⟩;rw[cD,cF O];exact gH U
def Xj(t:List aA)(K:t.length<=1000):AK t=some (t.map (·.aB)):=by
 unfold AK;rw[BC t aA.zero (·.aB) [] om (by simp) (λ i s L O=>by
  unfold KJ;have H:0<=(i:Int)/\(i:Int)<(t.length:Int):=om
  simp only[H.1,H.2,cW,mR,cG,cH,lL,mK i (show i<4611686018427387904 by omega)];rw[gdp om]) (λ s=>by unfold KJ;simp)]
 rfl
def MH{α β:Type}(l:List α)(z:α)(f:α->Option β){body:Int×List β->Option ((Int×List β)⊕List β)}(L:l.length<=1000000)
  (hb:∀(i:Nat) (s:List β),i<l.length->s.length<=1000000->body ((i:Int),s)=some (.inl (((i+1:Nat):Int),sP s (f (l.getD i z))))) (O:∀s,body ((l.length:Int),s)=some (.inr s)):mF body (0,[])=some (l.filterMap f):=by
 have H:=rL (body:=body) l z (λ i (s:List β)=>((i:Int),s)) (λ i a s=>some (.inl (sP s (f a)))) (λ s=>s) (λ i s=>s.length<=i)
  (λ i s K U=>⟨by rw[hb i s K om];rfl,λ Y h=>by simp only[cY,fH]at h;subst h;have:=bVt s (f (l.getD i z));omega⟩) (λ s U=>O s) [] (by simp)
 rw[show((0,[]):Int×List β)=(λ(i:Nat) (s:List β)=>((i:Int),s)) 0 []from rfl,H,F4 f];simp
def Ae(p:aK)(q:aA):Option aO:=if getH q.aS p=aC.zero then none else some ⟨q.aB.name,getH q.aS p⟩
def Gs(p:aK)(q:aA):Option aO:=if(nO q p).2=true then some ⟨q.aB.name,(nO q p).1⟩else none
def sayF(l:List bO)(n:ByteArray):Option aO:=if nG l n=aC.zero then none else some ⟨n,nG l n⟩
def BJ{t:List aA}(h:Lens t){i:Nat}(hi:i<t.length):(t.getD i aA.zero).aS.length<=1000/\(t.getD i aA.zero).aN.length<=1000/\(t.getD i aA.zero).aW.length<=1000:=h _ (mX hi)
def cLz(t:List aA)(p:aK)(V:t.length<=1000)(O:Lens t):CC t p=some (t.filterMap (Ae p)):=by
 unfold CC;rw[MH t aA.zero (Ae p) om (λ i s K L=>by
  unfold KZ;have H:0<=(i:Int)/\(i:Int)<(t.length:Int):=om
  have Y:=BJ O K;have U:s.length+1<=4294967296:=om
  simp only[H.1,H.2,U,cW,mR,cG,cH,lL,mK i (show i<4611686018427387904 by omega),xO (t.getD i aA.zero) p om,eF,zI];unfold Ae
  by_cases c:getH (t.getD i aA.zero).aS p=aC.zero
  .rw[cA c,bX (by rw[(wF _).2 c];decide)];rfl
  .rw[bX c,cA (by rw[(zL _).2 c];rfl)];rfl) (λ s=>by unfold KZ;simp)]
 rfl
def cM0(t:List aA)(p:aK)(V:t.length<=1000)(O:Lens t):CF t p=some (t.filterMap (Gs p)):=by
 unfold CF;rw[MH t aA.zero (Gs p) om (λ i s K L=>by
  unfold K3;have H:0<=(i:Int)/\(i:Int)<(t.length:Int):=om
  have Y:=BJ O K;have U:s.length+1<=4294967296:=om
  simp only[H.1,H.2,U,cW,mR,cG,cH,lL,mK i (show i<4611686018427387904 by omega),By (t.getD i aA.zero) p om om,eF];unfold Gs;split<;>rfl) (λ s=>by unfold K3;simp)]
 rfl
def cM1(l:bB)(L:l.aQ.length<=1000):∃H:List ByteArray,yO l.aQ=some H/\(∀n,n∈H↔∃e∈l.aQ,e.name=n)/\Cn l=some (H.filterMap (sayF l.aQ))/\H.length<=l.aQ.length:=by
 obtain⟨H,U,Y,O⟩:=Qp l.aQ om;refine⟨H,U,O,?_,Y⟩;unfold Cn;rw[U,eF,MH H ⟨#[]⟩ (sayF l.aQ) om (λ i s V K=>by
  unfold KO;have O:0<=(i:Int)/\(i:Int)<(H.length:Int):=om
  have B:s.length+1<=4294967296:=om
  simp only[O.1,O.2,B,cW,mR,cG,cH,lL,mK i (show i<4611686018427387904 by omega),BI l.aQ _ om,eF];unfold sayF
  by_cases c:nG l.aQ (H.getD i ⟨#[]⟩)=aC.zero
  .rw[cA c,bX (by rw[c];decide)];rfl
  .rw[bX c,cA (by rw[fM c];rfl)];rfl) (λ s=>by unfold KO;simp)]
 rfl
def cM2(a b:List aO)(H:a.length<=1000000):yL a b=some (decide (a=b)):=by
 unfold yL
 by_cases h:a.length=b.length
 .rw[bX (by simp[h])];exact O6 a b aO.zero om h (λ i=>rfl)
 .have:¬a=b:=λ e=>h (by rw[e]);rw[cA (by simp;omega),fM this]
def Qu(t:List aA)(p:aK)(e:aR)(hl:t.length<=1000)(F:Lens t):∃O L,t7 t p e=some O/\qX e=some (L,vE e)/\O.length=L.length/\(t=[]->∀i,O.getD i false=false):=by
 obtain⟨L,M,h2,H⟩:=DD e;unfold t7;rw[M,eF,gdp om];obtain⟨x,U,Z,B⟩:=nZ (body:=LC t p L) (λ g=>∃i:Nat,g.1=i/\i<=L.length/\g.2.length=L.length/\(t=[]->∀i,g.2.getD i false=false)) (λ g=>L.length-g.1.toNat) (λ x=>x.length=L.length/\(t=[]->∀i,x.getD i false=false))
  (λ g ⟨i,V,hle,hg,K⟩=>by
   obtain⟨g1,g2⟩:=g;simp only at V hg K;subst V;unfold LC
   by_cases c:i<L.length
   .left;have H:0<=(i:Int)/\(i:Int)<(L.length:Int):=om
    have U:(i:Int)<(g2.length:Int):=om
    simp only[H.1,H.2,U,cW,mR,cG,cH,Qm,mK i (show i<4611686018427387904 by omega),z7 t _ (show t.length<=1000000 by omega),qm];rcases I5 (t:=t) (nm:=(L.getD i aO.zero).name)with e|⟨k,e,Y,_⟩
    .rw[e,bX Om];exact⟨_,rfl,⟨i+1,rfl,c,hg,K⟩,by simp only[Qm];omega⟩
    .have B:=BJ F Y;rw[e,cA (by simp),gdp om,gdp om];simp only[Qm];rw[xO _ _ om,eF];exact⟨_,rfl,⟨i+1,rfl,c,by simp only[dV];exact hg,λ h=>by rw[h]at Y;cases Y⟩,by simp only[Qm];omega⟩
   .right;simp only[show¬(i:Int)<(L.length:Int)by omega,cO,bZ,cI];exact⟨_,rfl,hg,K⟩) (0,List.replicate ((L.length:Int).toNat) false) ⟨0,rfl,by omega,by simp,λ _ i=>by
     simp only[cD,jL];split<;>rfl⟩
 exact⟨x,L,by rw[U];rfl,H,Z,B⟩
def Jq(q:aA)(x:aG)(L:List aO):Prop:=
 (∃a∈L,a.name=q.aB.name/\covA q.aB (nG x.bH.aQ q.aB.name) a.aI=false/\
  ((nO q x.aM).2=false/\getH q.aS x.aM=rO q.aB (nG x.bH.aQ q.aB.name) a.aI\/getH q.aS x.aM=nG x.bH.aQ q.aB.name))\/
 (getH q.aS x.aM=nG x.bH.aQ q.aB.name/\(nO q x.aM).2=false)
def cM5(q:aA)(x:aG)(K:q.aW.length<=1000):∃r,mF (Fl q x) 0=some r/\(r=.inl ()\/r=.inr false):=by
 rcases DB (body:=Fl q x) q.aW.length (λ _=>True) (λ i L=>by
  unfold Fl;have H:0<=(i:Int)/\(i:Int)<(q.aW.length:Int):=om
  simp only[H.1,H.2,cW,fD,mR,cG,cH,Qm,mK i (show i<4611686018427387904 by omega)];split
  .exact⟨false,rfl,trivial⟩
  .exact⟨true,rfl,trivial⟩) (by unfold Fl;simp)with h|⟨h,_⟩
 .exact⟨_,h,.inr rfl⟩
 .exact⟨_,h,.inl rfl⟩
def cM6(q:aA)(x:aG)(L:List aO)(he:x.bH.aQ.length<=1000)(h0:q.aS.length<=1000)(h1:q.aN.length<=1000)(Y:q.aW.length<=1000)(hL:L.length<=1000):
  ∃b,C2 q x L=some b/\(b=true->Jq q x L):=by
 unfold C2;rw[BI _ _ om,eF,xO _ _ om,eF,By _ _ om om,eF];obtain⟨r,H,B⟩:=nZ (body:=Fm q x L (nG x.bH.aQ q.aB.name) (getH q.aS x.aM) (nO q x.aM)) (λ g=>∃i:Nat,g=i/\i<=L.length) (λ g=>L.length-g.toNat)
  (λ r=>r=.inl ()\/∃b,r=.inr b/\(b=true->Jq q x L))
  (λ g ⟨i,K,V⟩=>by
   subst K;unfold Fm
   by_cases c:i<L.length
   .have H:0<=(i:Int)/\(i:Int)<(L.length:Int):=om
    simp only[H.1,H.2,cW,mR,cG,cH,Qm,mK i (show i<4611686018427387904 by omega),ME]
    by_cases d:((!decide ((L.getD i aO.zero).name=q.aB.name))||(sG q.aB (nG x.bH.aQ q.aB.name) ((L.getD i aO.zero).aI)))=true
    .rw[cA d];exact .inl ⟨_,rfl,⟨i+1,rfl,c⟩,by simp only[Qm];omega⟩
    .rw[bX d];right;simp only[dU,dB,dE,lK,kT,gQ]at d;obtain⟨O,U⟩:=d;have hm:=mX (z:=aO.zero) c;rw[VK,eF];cases Z:(nO q x.aM).2 with
     |false=>simp only[dO,cH];refine⟨_,rfl,.inr ⟨_,rfl,λ hb=>.inl ⟨_,hm,O,U,.inl ⟨Z,gH hb⟩⟩⟩⟩
     |true=>
      simp only[cQ,bZ,cI];obtain⟨r,F,M⟩:=cM5 q x Y;rw[F];rcases M with rfl|rfl
      .refine⟨_,rfl,.inr ⟨_,rfl,λ hb=>.inl ⟨_,hm,O,U,.inr ?_⟩⟩⟩;simp only[bY,cB]at hb;exact hb.1
      .exact⟨_,rfl,.inr ⟨false,rfl,λ h=>nomatch h⟩⟩
   .right;simp only[show¬(i:Int)<(L.length:Int)by omega,cO,bZ,cI];exact⟨_,rfl,.inl rfl⟩) 0 ⟨0,rfl,by omega⟩
 rw[H];rcases B with rfl|⟨b,rfl,hb⟩
 .refine⟨_,rfl,λ h=>.inr ?_⟩;simp only[bY,cB,dB]at h;exact h
 .exact⟨b,rfl,hb⟩
def cM7(e:aR):∃b,B9 e aR.zero=some b:=by
 unfold B9;show∃b,AC (Ep _) e aR.zero=some b;unfold AC;split
 .exact⟨_,rfl⟩
 .rename_i h;have:e.bG.length=0:=by
   simp only[dU,lK,dB,dE,kT]at h;have H:=h.2;simp only[aR.zero,Ym]at H;omega
  rw[mP];unfold Hc;simp only[this,Int.natCast_zero,show¬(0:Int)<0 by omega,cO,bZ,cI];exact⟨_,rfl⟩
def cM8(l:List aJ)(nm:ByteArray)(V:l.length<=1000):∃v,B5 l nm=some v/\(v.2=true->v.1∈l/\v.1.name=nm):=by
 unfold B5;obtain⟨r,H,O⟩:=nZ (body:=Kh l nm) (λ g=>∃i:Nat,g=i/\i<=l.length) (λ g=>l.length-g.toNat) (λ r=>r=.inl ()\/∃x,r=.inr (x,true)/\x∈l/\x.name=nm)
  (λ g ⟨i,K,L⟩=>by
   subst K;unfold Kh
   by_cases c:i<l.length
   .have H:0<=(i:Int)/\(i:Int)<(l.length:Int):=om
    simp only[H.1,H.2,cW,mR,cG,cH,Qm,mK i (show i<4611686018427387904 by omega),ME]
    by_cases d:(l.getD i aJ.zero).name=nm
    .rw[cA (cP d)];exact .inr ⟨_,rfl,.inr ⟨_,rfl,mX c,d⟩⟩
    .rw[bX (by simpa using d)];exact .inl ⟨_,rfl,⟨i+1,rfl,c⟩,by simp only[Qm];omega⟩
   .right;simp only[show¬(i:Int)<(l.length:Int)by omega,cO,bZ,cI];exact⟨_,rfl,.inl rfl⟩) 0 ⟨0,rfl,by omega⟩
 rw[H];rcases O with rfl|⟨x,rfl,U⟩
 .exact⟨_,rfl,λ h=>nomatch h⟩
 .exact⟨_,rfl,λ _=>U⟩
def cM9(l:List aJ)(a:aO)(L:l.length<=1000):∃v,Fs l a=some v/\(v=0->∃r∈l,r.name=a.name/\mS r a.aI=true):=by
 unfold Fs;rw[Xb,eF];cases catV l with
 |false=>exact⟨2,rfl,λ h=>nomatch h⟩
 |true=>
  obtain⟨v,O,H⟩:=cM8 l a.name L;simp only[cQ,bZ,cI,O,qm];cases K:v.2 with
  |false=>exact⟨10,rfl,λ h=>nomatch h⟩
  |true=>
   simp only[cQ,bZ,cI];cases U:qW v.1 a.aI with
   |false=>exact⟨12,rfl,λ h=>nomatch h⟩
   |true=>exact⟨0,rfl,λ _=>⟨v.1,(H K).1,(H K).2,by rw[<-Bt];exact U⟩⟩
def Xk(l:List aJ)(e:aR)(K:l.length<=1000):∃v,Bb l e=some v/\(v=0->∀L b,qX e=some (L,b)->∀a∈L,∃r∈l,r.name=a.name/\mS r a.aI=true):=by
 unfold Bb;obtain⟨w,U,h2⟩:=MF e;have hw:=MG U;rw[U,eF];cases H:w.2 with
 |false=>exact⟨1,rfl,λ h=>nomatch h⟩
 |true=>
  simp only[cQ,bZ,cI];obtain⟨r,Y,h5⟩:=nZ (body:=Lt l w) (λ g=>∃i:Nat,g=i/\i<=w.1.length/\∀k,k<i->∃r∈l,r.name=(w.1.getD k aO.zero).name/\mS r (w.1.getD k aO.zero).aI=true) (λ g=>w.1.length-g.toNat)
   (λ r=>(∃v,r=.inr v/\v≠0)\/r=.inl ()/\∀k,k<w.1.length->∃r∈l,r.name=(w.1.getD k aO.zero).name/\mS r (w.1.getD k aO.zero).aI=true)
   (λ g ⟨i,V,Z,hg⟩=>by
    subst V;unfold Lt
    by_cases c:i<w.1.length
    .have H:0<=(i:Int)/\(i:Int)<(w.1.length:Int):=om
     obtain⟨v,B,F⟩:=cM9 l (w.1.getD i aO.zero) K;simp only[H.1,H.2,cW,mR,cG,cH,Qm,mK i (show i<4611686018427387904 by omega),B,qm]
     by_cases d:v=0
     .rw[bX (by simp[d])];refine .inl ⟨_,rfl,⟨i+1,rfl,c,λ k O=>?_⟩,by simp only[Qm];omega⟩;rcases kJ k i with h5|h5
      .exact hg k h5
      .have:k=i:=om
       subst this;exact F d
     .rw[cA (by simp[d])];exact .inr ⟨_,rfl,.inl ⟨v,rfl,d⟩⟩
    .have:i=w.1.length:=om
     subst this;right;simp only[show¬(w.1.length:Int)<(w.1.length:Int)by omega,cO,bZ,cI];exact⟨_,rfl,.inr ⟨rfl,hg⟩⟩) 0 ⟨0,rfl,by omega,λ k O=>om⟩
  rw[Y];rcases h5 with⟨v,rfl,hv⟩|⟨rfl,hg⟩
  .exact⟨v,rfl,λ h=>absurd h hv⟩
  .refine⟨0,rfl,λ _ L b M a ha=>?_⟩;cases M;obtain⟨k,O,rfl⟩:=wO (z:=aO.zero) ha;exact hg k O
structure ProcC (t:List aA) (x:aG):Prop where
 pv:mV x.aM=true
 gen:0<=x.gen/\x.gen<=1073741824
 led:LedgerP x.bH
 held:∀n,nG x.bH.aQ n≠aC.zero->∃q∈t,q.aB.name=n/\mS q.aB (nG x.bH.aQ n)=true
 wait:x.bJ=true->vE x.bK.bU=true/\∀L b,qX x.bK.bU=some (L,b)->(∀a∈L,∃q∈t,q.aB.name=a.name/\mS q.aB a.aI=true)/\∀q∈t,Jq q x L
 run:x.bJ=false->∀q∈t,getH q.aS x.aM=nG x.bH.aQ q.aB.name/\(nO q x.aM).2=false
structure CenP (c:bF):Prop where
 t:ValidT c.aF
 len:c.aD.length<=8
 each:∀x∈c.aD,ProcC c.aF x
 asc:c.aD.Pairwise λ a b=>ltP a.aM b.aM
 aD:∀p∈oN c.aF,∃x∈c.aD,x.aM=p
def ValidT.inj{t:List aA}(h:ValidT t){q H:aA}(O:q∈t)(U:H∈t)(e:q.aB.name=H.aB.name):q=H:=by obtain⟨i,K,rfl⟩:=wO (z:=aA.zero) O;obtain⟨j,Y,rfl⟩:=wO (z:=aA.zero) U;rw[PS h.asc K Y e]
def ValidT.lens'{t:List aA}(h:ValidT t):t.length<=1000/\Lens t:=⟨by have:=h.len;omega,h.lens⟩
def Xl{l:List bO}{n:ByteArray}(h:nG l n≠aC.zero):∃e∈l,e.name=n:=by
 have:∀(l:List bO) (a:aC),(∀e∈l,e.name≠n)->l.foldl (sayE n) a=a:=by
  intro l;induction l with
  |nil=>intro a _;rfl
  |cons e l O=>
   intro a H;rw[lR];have:sayE n a e=a:=by unfold sayE;rw[bX (H e (.head _))]
   rw[this];exact O a λ x K=>H x (.tail _ K)
 by_cases c:∃e∈l,e.name=n
 .exact c
 .exact absurd (this l aC.zero λ e U Y=>c ⟨e,U,Y⟩) h
def cMc(c:bF)(L:c.aF.length<=1000)(v:List aO)(V:v.length<=1000):
  mF (Fx c v) 0=some (.inr false)\/mF (Fx c v) 0=some (.inl ())/\∀i,i<v.length->∃q∈c.aF,q.aB.name=(v.getD i aO.zero).name/\mS q.aB (v.getD i aO.zero).aI=true:=
 DB v.length _ (λ i Y=>by
  unfold Fx;have H:0<=(i:Int)/\(i:Int)<(v.length:Int):=om
  simp only[H.1,H.2,cW,fD,mR,cG,cH,Qm,mK i (show i<4611686018427387904 by omega),z7 c.aF _ (show c.aF.length<=1000000 by omega),qm];rcases I5 (t:=c.aF) (nm:=(v.getD i aO.zero).name)with e|⟨k,e,O,U⟩
  .refine⟨false,?_,λ h=>nomatch h⟩;rw[e,gdp (by intro h;exact absurd h Om)];rfl
  .rw[e,gdp (by intro _;omega)];simp only[Qm,show¬(k:Int)<0 by omega,cO,dP];cases K:qW (c.aF.getD k aA.zero).aB (v.getD i aO.zero).aI with
   |false=>exact⟨false,rfl,λ h=>nomatch h⟩
   |true=>exact⟨true,rfl,λ _=>⟨_,mX O,U,by rw[<-Bt];exact K⟩⟩) (by unfold Fx;simp)
def cMd(c:bF)(x:aG)(L:List aO)(F:L.length<=8)(O:x.bH.aQ.length<=1000)(V:c.aF.length<=1000)(U:Lens c.aF):
  mF (Fw c x L) 0=some (.inr false)\/mF (Fw c x L) 0=some (.inl ())/\∀i,i<c.aF.length->Jq (c.aF.getD i aA.zero) x L:=
 DB c.aF.length _ (λ i K=>by
  unfold Fw;have H:0<=(i:Int)/\(i:Int)<(c.aF.length:Int):=om
  have M:=BJ U K;obtain⟨b,Y,B⟩:=cM6 (c.aF.getD i aA.zero) x L O om om om om;simp only[H.1,H.2,cW,fD,mR,cG,cH,Qm,mK i (show i<4611686018427387904 by omega),Y,qm];cases b with
  |false=>exact⟨false,rfl,λ h=>nomatch h⟩
  |true=>exact⟨true,rfl,λ _=>B rfl⟩) (by unfold Fw;simp)
def cMe(c:bF)(x:aG)(hv:ValidT c.aF):∃b,Bj c x=some b/\(b=true->ProcC c.aF x):=by
 obtain⟨K,V⟩:=hv.lens';unfold Bj;obtain⟨bl,l1,l2⟩:=DC x.bH;rw[l1,xM];cases hp:mV x.aM with
 |false=>exact⟨false,rfl,λ h=>nomatch h⟩
 |true=>
 by_cases cc:x.cost<1\/1000<x.cost
 .refine⟨false,?_,λ h=>nomatch h⟩;rcases cc with h|h<;>simp[h]
 have c1:¬x.cost<1:=λ h=>cc (.inl h);have c2:¬1000<x.cost:=λ h=>cc (.inr h);simp only[c1,c2,cO,cQ,fC,dO,cH,qm,dP];cases bl with
 |false=>exact⟨false,rfl,λ h=>nomatch h⟩
 |true=>
 have O:=l2 rfl
 by_cases cg:x.gen<0\/1073741824<x.gen
 .refine⟨false,?_,λ h=>nomatch h⟩;rcases cg with h|h<;>simp[h]
 have g1:¬x.gen<0:=λ h=>cg (.inl h);have g2:¬1073741824<x.gen:=λ h=>cg (.inr h);simp only[g1,g2,cO,cQ,fC,bZ,cI];obtain⟨Y,n1,n2,n3,n4⟩:=cM1 x.bH (by have:=O.le;omega);have u0:=O.le;have h0:(Y.filterMap (sayF x.bH.aQ)).length<=1000:=by have:=gR (sayF x.bH.aQ) Y;omega
 rw[n3,eF];rcases cMc c K _ h0 with h1|⟨h1,h2⟩
 .exact⟨false,by rw[h1];rfl,λ h=>nomatch h⟩
 have H:∀n,nG x.bH.aQ n≠aC.zero->∃q∈c.aF,q.aB.name=n/\mS q.aB (nG x.bH.aQ n)=true:=λ n hn=>by have hm:(⟨n,nG x.bH.aQ n⟩:aO)∈Y.filterMap (sayF x.bH.aQ):=fY.2 ⟨n,(n2 n).2 (Xl hn),by unfold sayF;rw[bX hn]⟩;obtain⟨i,hi,e⟩:=wO (z:=aO.zero) hm;have:=h2 i hi;rw[e]at this;exact this
 rw[h1,eF];show∃b,Il c x _ ()=some b/\_;unfold Il;have x0:(c.aF.filterMap (Ae x.aM)).length<=1000:=by have:=gR (Ae x.aM) c.aF;omega
 cases hw:x.bJ with
 |false=>
  simp only[dO,cH];obtain⟨b1,s1⟩:=cM7 x.bK.bU;have sr:∃b,EH x.bK {bP.zero with}=some b:=by unfold EH;rw[show({bP.zero with}:bP).bU=aR.zero from rfl,s1];exact⟨_,rfl⟩
  obtain⟨b2,s2⟩:=sr;rw[s2,eF,cLz _ _ K V,cM0 _ _ K V]
  by_cases c3:(b2&&decide (x.since=0))=true
  .simp only[c3,cH,qm,cM2 _ _ (show(Y.filterMap (sayF x.bH.aQ)).length<=1000000 by omega),cL]
   by_cases Z:Y.filterMap (sayF x.bH.aQ)=c.aF.filterMap (Ae x.aM)
   .simp only[Z,cG,cH,qm,cL];refine⟨_,rfl,λ hb=>⟨hp,by omega,O,H,λ h=>(by rw[hw]at h;cases h),λ _ q U=>?_⟩⟩;have hb:(c.aF.filterMap (Gs x.aM)).length=0:=by have:=gH hb;omega
    constructor
    .by_cases z1:getH q.aS x.aM=aC.zero
     .by_cases z2:nG x.bH.aQ q.aB.name=aC.zero
      .rw[z1,z2]
      .have hm:(⟨q.aB.name,nG x.bH.aQ q.aB.name⟩:aO)∈Y.filterMap (sayF x.bH.aQ):=fY.2 ⟨_,(n2 _).2 (Xl z2),by unfold sayF;rw[bX z2]⟩;rw[Z]at hm;obtain⟨q',y0,e⟩:=fY.1 hm;unfold Ae at e
       by_cases F:getH q'.aS x.aM=aC.zero
       .rw[cA F]at e;cases e
       .rw[bX F]at e;simp only[cY,aO.mk.injEq]at e;have:=hv.inj y0 U e.1;subst this;exact absurd z1 F
     .have hm:(⟨q.aB.name,getH q.aS x.aM⟩:aO)∈c.aF.filterMap (Ae x.aM):=fY.2 ⟨q,U,by unfold Ae;rw[bX z1]⟩;rw[<-Z]at hm;obtain⟨n,hn,e⟩:=fY.1 hm;unfold sayF at e
      by_cases F:nG x.bH.aQ n=aC.zero
      .rw[cA F]at e;cases e
      .rw[bX F]at e;simp only[cY,aO.mk.injEq]at e;rw[<-e.1];exact e.2.symm
    .cases hq2:(nO q x.aM).2 with
     |false=>rfl
     |true=>have:(⟨q.aB.name,(nO q x.aM).1⟩:aO)∈c.aF.filterMap (Gs x.aM):=fY.2 ⟨q,U,by unfold Gs;rw[cA hq2]⟩;rw[dA hb]at this;cases this
   .simp only[Z,cO,bZ,cI,qm,eY];exact⟨false,rfl,λ h=>nomatch h⟩
  .simp only[c3,cI,qm,bZ,eY];exact⟨false,rfl,λ h=>nomatch h⟩
 |true=>
  simp only[cQ,bZ,cI];have v7:∃b,wB x.bK=some b/\(b=true->vE x.bK.bU=true):=by unfold wB;rw[Jd,eF];refine⟨_,rfl,λ h=>?_⟩;simp only[bY]at h;exact h.1.1.1.1
  obtain⟨b7,v1,v2⟩:=v7;rw[v1,eF];cases b7 with
  |false=>exact⟨false,rfl,λ h=>nomatch h⟩
  |true=>
  have M:=v2 rfl;obtain⟨v9,r1,r2⟩:=Xk (c.aF.map (·.aB)) x.bK.bU (by simpa using K);simp only[cH,Xj _ K,qm,r1,cQ,dP]
  by_cases c9:v9=0
  .obtain⟨bs,L,q1,q2,_⟩:=Qu c.aF x.aM x.bK.bU K V;obtain⟨z0,q3,_⟩:=Qs M bs;rw[q1];generalize hB:((((!decide (v9=0))||(decide (x.since<0)))||(decide (c.now<x.since)))||((!decide (x.bK.limit=0))&&(decide ((IntKind.i64.wrap (x.since+x.bK.limit))<=c.now))))=B;cases B with
   |true=>exact⟨false,rfl,λ h=>nomatch h⟩
   |false=>
    simp only[dO,cH,qm,q3,dP];cases z0 with
    |true=>exact⟨false,rfl,λ h=>nomatch h⟩
    |false=>
     simp only[bZ,cI];obtain⟨l',a1,a2,a3⟩:=DD x.bK.bU;rw[a1,eF];rcases cMd c x l' a2 om K V with h5|⟨h5,h6⟩
     .exact⟨false,by rw[h5];rfl,λ h=>nomatch h⟩
     .refine⟨true,by rw[h5];rfl,λ _=>⟨hp,by omega,O,H,λ _=>⟨M,λ L b hL=>?_⟩,λ h=>(by rw[hw]at h;cases h)⟩⟩;rw[a3]at hL;cases hL;refine⟨λ a ha=>?_,λ q U=>?_⟩
      .obtain⟨r,hr,e1,e2⟩:=r2 c9 _ _ a3 a ha;obtain⟨q,U,rfl⟩:=cR.1 hr;exact⟨q,U,e1,e2⟩
      .obtain⟨i,hi,rfl⟩:=wO (z:=aA.zero) U;exact h6 i hi
  .simp only[c9,cO,dO,fV,cQ,bZ,cI,cH,qm];exact⟨false,rfl,λ h=>nomatch h⟩
def cMf(c:bF)(K:c.aD.length<=8)(v:List aK)(L:v.length<=1000):
  mF (Fz c v) 0=some (.inr false)\/mF (Fz c v) 0=some (.inl ())/\∀i,i<v.length->∃x∈c.aD,x.aM=v.getD i aK.zero:=
 DB v.length _ (λ i V=>by
  unfold Fz;have H:0<=(i:Int)/\(i:Int)<(v.length:Int):=om
  obtain⟨k,O,U⟩:=Qt c.aD (v.getD i aK.zero) om;simp only[H.1,H.2,cW,fD,mR,cG,cH,Qm,mK i (show i<4611686018427387904 by omega),O,qm];rcases U with⟨rfl,_⟩|⟨k,rfl,Y,e⟩
  .exact⟨false,rfl,λ h=>nomatch h⟩
  .exact⟨true,by rw[bX (by simp),cA rfl],λ _=>⟨_,mX Y,e⟩⟩) (by unfold Fz;simp)
def cMg(c:bF)(L:c.aD.length<=8)(K:ValidT c.aF):
  mF (Fy c) 0=some (.inr false)\/mF (Fy c) 0=some (.inl ())/\∀i,i<c.aD.length->ProcC c.aF (c.aD.getD i aG.zero)/\(0<i->ltP (c.aD.getD (i-1) aG.zero).aM (c.aD.getD i aG.zero).aM):=
 DB c.aD.length _ (λ i V=>by
  unfold Fy;have O:0<=(i:Int)/\(i:Int)<(c.aD.length:Int):=om
  obtain⟨b,Y,U⟩:=cMe c (c.aD.getD i aG.zero) K;simp only[O.1,O.2,cW,fD,mR,cG,cH,Qm,mK i (show i<4611686018427387904 by omega),Y,qm];rw[gdp (by
   intro h;simp only[bY,cB]at h;rw[mH om om];try omega)]
  cases b with
  |false=>exact⟨false,rfl,λ h=>nomatch h⟩
  |true=>
   simp only[cQ,dP]
   by_cases B:i=0
   .subst B;exact⟨true,rfl,λ _=>⟨U rfl,λ h=>absurd h om⟩⟩
   .rw[w9 i om om];simp only[show(0:Int)<(i:Int)by omega,cG,cL,Qm]
    by_cases H:ltP (c.aD.getD (i-1) aG.zero).aM (c.aD.getD i aG.zero).aM
    .refine⟨true,?_,λ _=>⟨U rfl,λ _=>H⟩⟩;rw[bX (by simp only[cB];exactλ h=>(LY _ _).1 h H),cA rfl]
    .refine⟨false,?_,λ h=>nomatch h⟩;rw[cA (by simp only[cB];exact(LY _ _).2 H)];rfl) (by unfold Fy;simp)
def cMh{l:List aG}(h:∀i,i<l.length->0<i->ltP (l.getD (i-1) aG.zero).aM (l.getD i aG.zero).aM):l.Pairwise λ a b=>ltP a.aM b.aM:=by
 rw[eZ];have g:∀k,(U:k<l.length)->l.getD k aG.zero=l[k]:=λ k U=>by rw[cD,cF U];rfl
 have O:∀d i,(H:i+d+1<l.length)->ltP (l.getD i aG.zero).aM (l.getD (i+d+1) aG.zero).aM:=by
  intro d;induction d with
  |zero=>intro i H;exact h (i+1) H om
  |succ d Y=>intro i H;exact Dg (Y i om) (h (i+(d+1)+1) H om)
 intro i j K H B;have:=O (j-i-1) i om;rw[show i+(j-i-1)+1=j by omega,g i K,g j H]at this;exact this
def Xn(c:bF):∃b,Bl c=some b/\(b=true->CenP c):=by
 unfold Bl
 by_cases H:c.now<0\/1073741824<c.now
 .refine⟨false,?_,λ h=>nomatch h⟩;rcases H with h|h<;>simp[h]
 have B:¬c.now<0:=λ h=>H (.inl h);have c2:¬1073741824<c.now:=λ h=>H (.inr h);simp only[B,c2,cO,fC,dO,cH,I6,qm,dP];cases hv:wI c.aF with
 |false=>exact⟨false,rfl,λ h=>nomatch h⟩
 |true=>
 have K:=(z6 _).1 hv
 by_cases U:(8:Int)<(c.aD.length:Int)
 .exact⟨false,by simp[U],λ h=>nomatch h⟩
 simp only[U,cO,cQ,fC,bZ,cI];have V:c.aD.length<=8:=om
 rw[Ml K.len K.each,eF];rcases cMf c V (oN c.aF) (by have:=K.aD;omega)with Z|⟨Z,h2⟩
 .exact⟨false,by rw[Z];rfl,λ h=>nomatch h⟩
 rw[Z,eF];show∃b,Im c ()=some b/\_;unfold Im;rcases cMg c V K with O|⟨O,Y⟩
 .exact⟨false,by rw[O];rfl,λ h=>nomatch h⟩
 refine⟨true,by rw[O];rfl,λ _=>⟨K,V,λ x hx=>?_,cMh λ i L F=>(Y i L).2 F,λ p M=>?_⟩⟩
 .obtain⟨i,L,rfl⟩:=wO (z:=aG.zero) hx;exact(Y i L).1
 .obtain⟨i,L,e⟩:=wO (z:=aK.zero) M;obtain⟨x,hx,e2⟩:=h2 i L;exact⟨x,hx,e2.trans e⟩
def cMj{q:aA}{p:aK}(h:mZ q=true)(hw:(nO q p).2=true):(pY q p).2.2=0/\(∀x,covA q.aB (getH (pY q p).1.aS x) (getH q.aS x)=true)/\getH (pY q p).1.aS p=getH q.aS p/\(nO (pY q p).1 p).2=false:=by
 have O:(pY q p).2.2=0:=by unfold pY;rw[bX (by rw[h];decide),bX (by rw[hw];decide)];rfl
 obtain⟨_,_,_,H,Y⟩:=IV O;have B:∀w∈ordQ (zM q p),w.aM≠p:=λ w hw=>by
  unfold ordQ zM at hw;simp only[cX,Dl]at hw;rcases hw with hw|hw
  .exact hw.2
  .exact hw.2
 have U:=V5 B;refine⟨O,λ x=>?_,?_,?_⟩
 .rw[H,xQ];exact IW Y x
 .rw[H,xQ];exact U.1
 .rw[H,xQ];exact Dm.2 U.2
def Xo{q:aA}{p:aK}{a:aC}(h:mZ q=true)(B:getH q.aS p≠aC.zero)(K:(nO q p).2=false)(F:covA q.aB (getH q.aS p) a=true):
  (oQ q p a).2.2=0/\(∀x,x≠p->covA q.aB (getH (oQ q p a).1.aS x) (getH q.aS x)=true)/\getH (oQ q p a).1.aS p=a/\(nO (oQ q p a).1 p).2=false:=by
 have U:(oQ q p a).2.2=0:=by unfold oQ;rw[bX (by rw[h];decide),bX B,bX (by rw[K];decide),bX (by rw[F];decide)];split<;>rfl
 obtain⟨M,_,_,_,_,L⟩:=Ge U;rcases L with⟨Y,H⟩|⟨Y,H,V⟩
 .rw[H];exact⟨rfl,λ x _=>y5 (Bz M.hv x),Y,K⟩
 .have Z:∀w∈ordQ (wH q p a),w.aM≠p:=Dm.1 K;have O:=V5 Z;refine⟨U,λ x hx=>?_,?_,?_⟩
  .rw[H,xQ];have:=IW V x;unfold wH at this;rw[zK hx]at this;exact this
  .rw[H,xQ];show getH (advS (wH q p a)).aS p=a;rw[O.1];exact Pp _ _ _
  .rw[H,xQ];exact Dm.2 O.2
structure Kept (p:aK) (t t':List aA):Prop where
 v:ValidT t'
 len:t'.length=t.length
 res:∀i,i<t.length->(t'.getD i aA.zero).aB=(t.getD i aA.zero).aB
 cov:∀i,i<t.length->∀x,x≠p->covA (t.getD i aA.zero).aB (getH (t'.getD i aA.zero).aS x) (getH (t.getD i aA.zero).aS x)=true
def MI{α:Type}(l:List α)(i j:Nat)(x z:α)(h:i≠j):(l.set i x).getD j z=l.getD j z:=by rw[cD,cD,lY h]
def Gt{p:aK}{t:List aA}(h:ValidT t):Kept p t t:=
 ⟨h,rfl,λ _ _=>rfl,λ i H x _=>y5 (Bz ((qR _).1 (h.each _ (mX (z:=aA.zero) H))).1.hv x)⟩
def MJ{p:aK}{t:List aA}(h:ValidT t){i:Nat}(hi:i<t.length){q:aA}(L:ValidT (t.set i q))(O:q.aB=(t.getD i aA.zero).aB)
  (U:∀x,x≠p->covA (t.getD i aA.zero).aB (getH q.aS x) (getH (t.getD i aA.zero).aS x)=true):Kept p t (t.set i q):=by
 have k:=Gt (p:=p) h;refine⟨L,dV,λ j H=>?_,λ j H x K=>?_⟩
 .by_cases e:i=j
  .subst e;rw[sH t i q _ hi];exact O
  .rw[MI t i j q _ e]
 .by_cases e:i=j
  .subst e;rw[sH t i q _ hi];exact U x K
  .rw[MI t i j q _ e];exact k.cov j H x K
def Kept.trans{p:aK}{a b c:List aA}(h:Kept p a b)(k:Kept p b c):Kept p a c:=
 ⟨k.v,k.len.trans h.len,λ i K=>(k.res i (by rw[h.len];exact K)).trans (h.res i K),λ i K x L=>by
  have H:=k.cov i (by rw[h.len];exact K) x L;rw[h.res i K]at H;exact Md H (h.cov i K x L)⟩
def Kept.find{p:aK}{t H:List aA}(h:ValidT t)(k:Kept p t H){i:Nat}(hi:i<t.length):nS H (t.getD i aA.zero).aB.name=i:=by have:=Mj k.v.asc (i:=i) (by rw[k.len];exact hi);rwa [k.res i hi]at this
def cMo{t:List aA}(h:ValidT t){i:Nat}(hi:i<t.length){p:aK}(L:(nO (t.getD i aA.zero) p).2=true):∃q ev,Ad t p (t.getD i aA.zero).aB.name=(t.set i q,ev,0)/\ev.length<=20/\Kept p t (t.set i q)/\
  getH q.aS p=getH (t.getD i aA.zero).aS p/\(nO q p).2=false/\q.aB=(t.getD i aA.zero).aB:=by
 have H:=h.each _ (mX (z:=aA.zero) hi);obtain⟨O,Y,B,F⟩:=cMj H L;have M:=Mj h.asc hi;have U:=Dz H (.cancel p O);have e:Ad t p (t.getD i aA.zero).aB.name=(t.set i (pY (t.getD i aA.zero) p).1,[]++uF (t.getD i aA.zero).aB.name (pY (t.getD i aA.zero) p).2.1,0):=by unfold Ad atT putT;rw[bX (by rw[(z6 t).2 h];decide),M,bX om];simp only[Qm,O,cH];rw[Gr]
 have K:ValidT (t.set i (pY (t.getD i aA.zero) p).1):=by have:=(cL1 (t:=t) (p:=p) (nm:=(t.getD i aA.zero).aB.name) (by rw[e]));obtain⟨_,_,_,_,K⟩:=this;rwa [e]at K
 refine⟨_,_,e,?_,MJ h hi K U.2 λ x _=>Y x,B,F,U.2⟩;have:=(Wi (t.getD i aA.zero) p).2.2.2;rw[lP,Gp];omega
def Xp{t:List aA}(h:ValidT t){i:Nat}(hi:i<t.length){p:aK}{a:aC}(Y:getH (t.getD i aA.zero).aS p≠aC.zero)(L:(nO (t.getD i aA.zero) p).2=false)(B:covA (t.getD i aA.zero).aB (getH (t.getD i aA.zero).aS p) a=true):
  ∃q ev,qZ t p ⟨(t.getD i aA.zero).aB.name,a⟩=(t.set i q,ev,0)/\ev.length<=20/\Kept p t (t.set i q)/\getH q.aS p=a/\(nO q p).2=false/\q.aB=(t.getD i aA.zero).aB:=by
 have H:=h.each _ (mX (z:=aA.zero) hi);obtain⟨O,F,M,V⟩:=Xo H Y L B;have Z:=Mj h.asc hi;have U:=Dz H (.lower p a O);have e:qZ t p ⟨(t.getD i aA.zero).aB.name,a⟩=(t.set i (oQ (t.getD i aA.zero) p a).1,(if getH (t.getD i aA.zero).aS p=a then[]else[Dx p (t.getD i aA.zero).aB.name a])++uF (t.getD i aA.zero).aB.name (oQ (t.getD i aA.zero) p a).2.1,0):=by unfold qZ atT putT;rw[bX (by rw[(z6 t).2 h];decide)];simp only[Z,Qm,O,cH,show¬(i:Int)<0 by omega,cI];rw[Gr]
 have K:ValidT (t.set i (oQ (t.getD i aA.zero) p a).1):=by have:=(Xe (t:=t) (p:=p) (a:=⟨(t.getD i aA.zero).aB.name,a⟩) (by rw[e]));obtain⟨_,_,_,_,K⟩:=this;rwa [e]at K
 refine⟨_,_,e,?_,MJ h hi K U.2 F,M,V,U.2⟩;have:=(PL (t.getD i aA.zero) p a).2.2.2;rw[cC,Gp];have:(if getH (t.getD i aA.zero).aS p=a then([]:List bN)else[Dx p (t.getD i aA.zero).aB.name a]).length<=1:=by split<;>simp
 omega
def wP(w:bD)(t:List aA)(ev:List bN):bD:=⟨⟨w.c.now,t,w.c.aD⟩,ev⟩
def DE(t:List aA)(ev:List bN)(w:bD)(h:w.ev.length+ev.length<=4294967296):vT t ev w=some (w.c.now,t,w.c.aD,w.ev++ev):=by unfold vT;rw[gdp h]
def cMs(x:aG){w:bD}(h:ValidT w.c.aF){i:Nat}(hi:i<w.c.aF.length)(he:x.bH.aQ.length<=1000)(x0:w.ev.length<=1000000)
  (F:covA (w.c.aF.getD i aA.zero).aB (getH (w.c.aF.getD i aA.zero).aS x.aM) (nG x.bH.aQ (w.c.aF.getD i aA.zero).aB.name)=true):
  ∃q ev,Bn x (w.c.aF.getD i aA.zero).aB.name w=some (wP w (w.c.aF.set i q) (w.ev++ev))/\ev.length<=40/\Kept x.aM w.c.aF (w.c.aF.set i q)/\
   getH q.aS x.aM=nG x.bH.aQ (w.c.aF.getD i aA.zero).aB.name/\(nO q x.aM).2=false/\q.aB=(w.c.aF.getD i aA.zero).aB:=by
 obtain⟨hl,hs⟩:=h.lens';have h4:=BJ hs hi;have hf:=Mj h.asc hi;have k1:∀(H:List aA) (O:List bN),Kept x.aM w.c.aF H->O.length<=20->getH (H.getD i aA.zero).aS x.aM=getH (w.c.aF.getD i aA.zero).aS x.aM->(nO (H.getD i aA.zero) x.aM).2=false->
   (∃Y,H=w.c.aF.set i Y)->∃q ev,Iz x (w.c.aF.getD i aA.zero).aB.name (i:Int) (wP w H (w.ev++O))=some (wP w (w.c.aF.set i q) (w.ev++ev))/\ev.length<=40/\Kept x.aM w.c.aF (w.c.aF.set i q)/\
   getH q.aS x.aM=nG x.bH.aQ (w.c.aF.getD i aA.zero).aB.name/\(nO q x.aM).2=false/\q.aB=(w.c.aF.getD i aA.zero).aB:=by
  intro H O U h0 hh L ⟨Y,K⟩;have V:i<H.length:=by rw[U.len];exact hi
  have h5:=BJ U.v.lens V;have M:=U.res i hi;have hg:H.getD i aA.zero=Y:=by rw[K];exact sH _ _ _ _ hi
  unfold Iz;rw[BI _ _ om,eF];show∃q ev,gd (0<=(i:Int)/\(i:Int)<(H.length:Int)) ((sF (H.getD (i:Int).toNat aA.zero) x.aM).bind _)=_/\_;rw[gdp om];simp only[Qm];rw[xO _ _ om,eF]
  by_cases e:getH (H.getD i aA.zero).aS x.aM=nG x.bH.aQ (w.c.aF.getD i aA.zero).aB.name
  .rw[bX (by simp[e,-List.getD_eq_getElem?_getD])];refine⟨Y,O,by rw[<-K],by omega,K▸U,by rw[<-hg];exact e,by rw[<-hg];exact L,by rw[<-hg];exact M⟩
  .rw[cA (by simp[e,-List.getD_eq_getElem?_getD])];have hz:getH (H.getD i aA.zero).aS x.aM≠aC.zero:=λ z=>by
    rw[hh]at z e;rw[z]at F;rcases((uE _ _ _).1 F).2.2 with h6|h6
    .exact e (z.trans h6.symm)
    .exact h6.1 rfl
   obtain⟨q,ev,B,r2,Z,r4,r5,r6⟩:=Xp U.v V (p:=x.aM) (a:=nG x.bH.aQ (w.c.aF.getD i aA.zero).aB.name) hz L (by rw[M,hh];exact F);rw[M]at B r6;rw[Qk,eF];show∃q ev,(vT (qZ H x.aM ⟨_,_⟩).1 (qZ H x.aM ⟨_,_⟩).2.1 (wP w H (w.ev++O))).bind _=_/\_;rw[B,DE _ _ _ (by show(w.ev++O).length+ev.length<=_;rw[cC];omega),eF];have es:H.set i q=w.c.aF.set i q:=by rw[K,gS]
   refine⟨q,O++ev,?_,by rw[cC];omega,es▸U.trans Z,r4,r5,r6⟩;show some (wP w (H.set i q) ((w.ev++O)++ev))=_;rw[es,cE]
 unfold Bn;rw[z7 _ _ om,eF,hf,gdp om];simp only[Qm];rw[By _ _ om om,eF];cases L:(nO (w.c.aF.getD i aA.zero) x.aM).2 with
 |true=>rw[cA rfl];obtain⟨q,ev,B,r2,Z,r4,r5,r6⟩:=cMo h hi L;rw[cK7,eF,B,DE _ _ _ (by simp only;omega),eF];have hg:(w.c.aF.set i q).getD i aA.zero=q:=sH _ _ _ _ hi;exact k1 (w.c.aF.set i q) ev Z r2 (by rw[hg];exact r4) (by rw[hg];exact r5) ⟨q,rfl⟩
 |false=>rw[bX Om];have:=k1 w.c.aF [] (Gt h) (by simp) rfl L ⟨_,(MB _ _ aA.zero hi).symm⟩;rw[dY]at this;exact this
structure OkW (t:List aA) (y:aG):Prop where
 e:vE y.bK.bU=true
 le:y.bH.aQ.length<=1000
 at_:∀L b,qX y.bK.bU=some (L,b)->∀a∈L,∃i,i<t.length/\(t.getD i aA.zero).aB.name=a.name
 cov:∀i,i<t.length->covA (t.getD i aA.zero).aB (getH (t.getD i aA.zero).aS y.aM) (nG y.bH.aQ (t.getD i aA.zero).aB.name)=true
def OkW.kept{p:aK}{t H:List aA}{y:aG}(h:OkW t y)(k:Kept p t H)(U:y.aM≠p):OkW H y:=by
 refine⟨h.e,h.le,λ L b O a V=>?_,λ i K=>?_⟩
 .obtain⟨i,K,e⟩:=h.at_ L b O a V;exact⟨i,by rw[k.len];exact K,by rw[k.res i K];exact e⟩
 .rw[k.len]at K;rw[k.res i K];exact Md (k.cov i K _ U) (h.cov i K)
structure Good (w:bD):Prop where
 v:ValidT w.c.aF
 len:w.c.aD.length<=8
 nd:(w.c.aD.map (·.aM)).Nodup
 ok:∀y∈w.c.aD,y.bJ=true->OkW w.c.aF y
def cntW(l:List aG):Nat:=l.countP (·.bJ)
def bud(w:bD):Nat:=w.ev.length+2000*cntW w.c.aD
def cMt(l:List aG):cntW l<=l.length:=List.countP_le_length
def Xq{l:List aG}{i:Nat}(h:i<l.length)(y:aG):cntW (l.set i y)+(if(l.getD i aG.zero).bJ then 1 else 0)=cntW l+(if y.bJ then 1 else 0):=by
 unfold cntW;induction l generalizing i with
 |nil=>cases h
 |cons x l H=>
  cases i with
  |zero=>simp only[List.set_cons_zero,List.countP_cons,List.getD_cons_zero];omega
  |succ i=>simp only[List.set_cons_succ,List.countP_cons,hI];have:=H (i:=i) (by simpa using h);omega
def pD(x:aG):aG:={x with bJ:=false,bK:=bP.zero,since:=0}
def Xr{i:Nat}{w:bD}(hi:i<w.c.aD.length):Ce (i:Int) w=some (w.c.now,w.c.aF,w.c.aD.set i (pD (w.c.aD.getD i aG.zero)),w.ev):=by unfold Ce;rw[gdp om,gdp om,gdp om];simp only[Qm,gS];rw[sH _ _ _ _ hi];rw[sH _ _ _ _ (by simpa using hi)];rfl
def Gu{i:Nat}{w:bD}(hi:i<w.c.aD.length):uS (i:Int) w=some (w.c.now,w.c.aF,w.c.aD.set i {(w.c.aD.getD i aG.zero)with gen:=pC (w.c.aD.getD i aG.zero).gen},w.ev):=by unfold uS;rw[gdp om,gdp om];simp only[Qm]
def Qv(k:Int)(p:aK){w:bD}(h:w.ev.length<=1000000):Az k p w=some (w.c.now,w.c.aF,w.c.aD,w.ev++[{bN.zero with kind:=k,aM:=p}]):=by unfold Az;rw[gdp om]
def Xs{w:bD}(hl:w.c.aD.length<=8)(O:w.c.aF.length<=1000)(U:Lens w.c.aF)(Y:∀y∈w.c.aD,y.bJ=true->vE y.bK.bU=true):
  ∃v,zD w=some (v,w.c.now,w.c.aF,w.c.aD,w.ev)/\(v=-1\/∃i:Nat,v=i/\i<w.c.aD.length/\(w.c.aD.getD i aG.zero).bJ=true/\w.c.aF≠[]):=by
 unfold zD;obtain⟨x,B,F⟩:=nZ (body:=LD w) (λ g=>∃i:Nat,g=i/\i<=w.c.aD.length) (λ g=>w.c.aD.length-g.toNat)
  (λ x=>x=.inl ()\/∃i:Nat,x=.inr ((i:Int),w.c.now,w.c.aF,w.c.aD,w.ev)/\i<w.c.aD.length/\(w.c.aD.getD i aG.zero).bJ=true/\w.c.aF≠[])
  (λ g ⟨i,V,Z⟩=>by
   subst V;unfold LD
   by_cases c:i<w.c.aD.length
   .have H:0<=(i:Int)/\(i:Int)<(w.c.aD.length:Int):=om
    simp only[H.1,H.2,cW,mR,cG,cH,Qm,mK i (show i<4611686018427387904 by omega)];cases K:(w.c.aD.getD i aG.zero).bJ with
    |false=>simp only[bZ,cI,qm,eY];exact .inl ⟨_,rfl,⟨i+1,rfl,c⟩,by simp only[Qm];omega⟩
    |true=>
     simp only[cH,cL];obtain⟨M,L,q1,q2,q3,q4⟩:=Qu w.c.aF (w.c.aD.getD i aG.zero).aM (w.c.aD.getD i aG.zero).bK.bU O U;obtain⟨b,r1,r2⟩:=Qs (Y _ (mX c) K) M;rw[q1,eF,r1,eF];cases b with
     |false=>rw[bX Om];exact .inl ⟨_,rfl,⟨i+1,rfl,c⟩,by simp only[Qm];omega⟩
     |true=>rw[cA rfl];refine .inr ⟨_,rfl,.inr ⟨i,rfl,c,K,λ hn=>?_⟩⟩;have:=r2 (q4 hn);cases this
   .right;simp only[show¬(i:Int)<(w.c.aD.length:Int)by omega,cO,bZ,cI];exact⟨_,rfl,.inl rfl⟩) 0 ⟨0,rfl,by omega⟩
 rw[B];rcases F with rfl|⟨i,rfl,H,h4,h5⟩
 .exact⟨-1,rfl,.inl rfl⟩
 .exact⟨i,rfl,.inr ⟨i,rfl,H,h4,h5⟩⟩
def cN0(l:bB)(e:bO):∃r,Ff l e=some r/\r.1.aQ.length<=100:=by
 unfold Ff;obtain⟨b,O,U⟩:=DC l;rw[O,eF];cases b with
 |false=>exact⟨_,rfl,by simp[bB.zero]⟩
 |true=>
  have H:=U rfl;have:=H.le;have:=H.ls;simp only[cQ,bZ,cI];rw[gdp om,gdp om,gdp om];obtain⟨Y,B,_⟩:=DC ⟨l.aQ++[e],l.bI⟩;rw[B,eF];cases Y with
  |false=>exact⟨_,rfl,by simp[bB.zero]⟩
  |true=>exact⟨_,rfl,by simp;omega⟩
def Left(x:aG)(t H:List aA)(O:List aO):Prop:=∀j,j<t.length->
 (getH (H.getD j aA.zero).aS x.aM=nG x.bH.aQ (t.getD j aA.zero).aB.name/\(nO (H.getD j aA.zero) x.aM).2=false)\/
 (H.getD j aA.zero=t.getD j aA.zero/\∀a∈O,a.name≠(t.getD j aA.zero).aB.name)
def Left.cov{x:aG}{t H:List aA}{O:List aO}(h:Left x t H O)(k:Kept x.aM t H)(U:∀i,i<t.length->covA (t.getD i aA.zero).aB (getH (t.getD i aA.zero).aS x.aM) (nG x.bH.aQ (t.getD i aA.zero).aB.name)=true):
  ∀i,i<t.length->covA (t.getD i aA.zero).aB (getH (H.getD i aA.zero).aS x.aM) (nG x.bH.aQ (t.getD i aA.zero).aB.name)=true:=by
 intro i K;rcases h i K with⟨e,_⟩|⟨e,_⟩
 .rw[<-e,<-k.res i K];exact y5 (Bz ((qR _).1 (k.v.each _ (mX (z:=aA.zero) (by rw[k.len];exact K)))).1.hv x.aM)
 .rw[e];exact U i K
def drop_left{x:aG}{w:bD}{t:List aA}(h:ValidT t)(k:Kept x.aM t w.c.aF){M:List aO}(L:Left x t w.c.aF M)(O:x.bH.aQ.length<=1000)(U:w.ev.length<=1000000)
  (hc:∀i,i<t.length->covA (t.getD i aA.zero).aB (getH (t.getD i aA.zero).aS x.aM) (nG x.bH.aQ (t.getD i aA.zero).aB.name)=true) {a:aO} (ha:∃i,i<t.length/\(t.getD i aA.zero).aB.name=a.name):
  ∃Y ev,Bn x a.name w=some (wP w Y (w.ev++ev))/\ev.length<=40/\Kept x.aM t Y/\Left x t Y (M++[a]):=by
 obtain⟨i,K,V⟩:=ha;have H:i<w.c.aF.length:=by rw[k.len];exact K
 have Z:=k.res i K;obtain⟨q,ev,B,h2,h3,h4,h5,h6⟩:=cMs x k.v H O U (by rw[Z];exact L.cov k hc i K);rw[Z]at B h4;rw[V]at B;refine⟨_,ev,B,h2,k.trans h3,λ j hj=>?_⟩
 by_cases e:i=j
 .subst e;left;rw[sH _ _ _ _ H];exact⟨h4,h5⟩
 .rw[MI _ _ _ _ _ e];rcases L j hj with F|⟨F,h8⟩
  .exact .inl F
  .refine .inr ⟨F,λ b hb=>?_⟩;rcases cX.1 hb with hb|hb
   .exact h8 b hb
   .rw[dQ]at hb;subst hb;rw[<-V];exactλ he=>e (PS h.asc K hj he)
def Xt{i:Nat}{w:bD}(g:Good w)(hi:i<w.c.aD.length)(V:(w.c.aD.getD i aG.zero).bJ=true)(hb:bud w<=500000):
  ∃H ev L,u7 (i:Int) w=some ⟨⟨w.c.now,H,w.c.aD.set i (pD (w.c.aD.getD i aG.zero))⟩,w.ev++ev⟩/\ev.length<=320/\Kept (w.c.aD.getD i aG.zero).aM w.c.aF H/\
   qX (w.c.aD.getD i aG.zero).bK.bU=some (L,true)/\Left (w.c.aD.getD i aG.zero) w.c.aF H L:=by
 have ok:=g.ok _ (mX hi) V;obtain⟨L,Z,a2,Y⟩:=DD (w.c.aD.getD i aG.zero).bK.bU;have B:w.ev.length<=500000:=by unfold bud at hb;omega
 unfold u7;rw[gdp om];simp only[Qm];rw[Z,eF];obtain⟨x,h1,h2⟩:=nZ (body:=LM (i:Int) w L) (λ g=>∃(k:Nat) (H:List aA) (ev:List bN),g=((k:Int),wP w H (w.ev++ev))/\k<=L.length/\ev.length<=40*k/\Kept (w.c.aD.getD i aG.zero).aM w.c.aF H/\Left (w.c.aD.getD i aG.zero) w.c.aF H (L.take k))
  (λ g=>L.length-g.1.toNat) (λ x=>∃(H:List aA) (ev:List bN),x=wP w H (w.ev++ev)/\ev.length<=320/\Kept (w.c.aD.getD i aG.zero).aM w.c.aF H/\Left (w.c.aD.getD i aG.zero) w.c.aF H L)
  (λ g ⟨k,H,ev,hg,hk,F,hK,O⟩=>by
   subst hg;unfold LM
   by_cases c:k<L.length
   .left;have M:0<=(k:Int)/\(k:Int)<(L.length:Int):=om
    simp only[M.1,M.2,cW,mR,cG,cH,Qm,mK k (show k<4611686018427387904 by omega)];obtain⟨K,U,r1,r2,r3,r4⟩:=drop_left (w:=wP w H (w.ev++ev)) g.v hK O ok.le (by show(w.ev++ev).length<=_;rw[cC];omega) ok.cov (ok.at_ L _ Y _ (mX (z:=aO.zero) c));rw[r1,eF];refine⟨_,rfl,⟨k+1,K,ev++U,?_,c,by rw[cC];omega,r3,?_⟩,by simp only[Qm];omega⟩
    .show(((k+1:Nat):Int),wP (wP w H (w.ev++ev)) K ((w.ev++ev)++U))=_;rw[cE];rfl
    .rw[vJ aO.zero c];exact r4
   .right;have e:k=L.length:=om
    simp only[show¬(k:Int)<(L.length:Int)by omega,cO,bZ,cI];exact⟨_,rfl,H,ev,rfl,by omega,hK,by rw[e,eU]at O;exact O⟩) (0,w) ⟨0,w.c.aF,[],by rw[dY];rfl,by omega,by simp,Gt g.v,λ j hj=>.inr ⟨rfl,λ a ha=>by cases ha⟩⟩
 obtain⟨H,ev,rfl,F,hK,O⟩:=h2;rw[h1,eF];unfold O0;rw[Xr (w:=wP w H (w.ev++ev)) hi,eF];exact⟨H,ev,L,rfl,F,hK,by rw[Y,ok.e],O⟩
def Good.upd{w:bD}(g:Good w){i:Nat}(hi:i<w.c.aD.length){Y:List aA}(k:Kept (w.c.aD.getD i aG.zero).aM w.c.aF Y){y:aG}(L:y.aM=(w.c.aD.getD i aG.zero).aM)(V:y.bJ=true->OkW Y y)(n:Int)(ev:List bN):
  Good ⟨⟨n,Y,w.c.aD.set i y⟩,ev⟩:=by
 have H:(w.c.aD.set i y).map (·.aM)=w.c.aD.map (·.aM):=by
  rw[kI,L];have:(w.c.aD.map (·.aM)).getD i aK.zero=(w.c.aD.getD i aG.zero).aM:=by rw[cD,cV,cD,cF hi];rfl
  rw[<-this];exact MB _ _ _ (by simpa using hi)
 refine⟨k.v,by simpa using g.len,by show((w.c.aD.set i y).map (·.aM)).Nodup;rw[H];exact g.nd,λ z Z O=>?_⟩;obtain⟨j,U,e⟩:=gC.1 (show z∈w.c.aD.set i y from Z);rw[dV]at U
 by_cases c:i=j
 .subst c;rw[List.getElem_set_self]at e;subst e;exact V O
 .rw[List.getElem_set_ne c]at e;have hm:z∈w.c.aD:=e▸iA U;refine(g.ok z hm O).kept k λ B=>?_;have F:=eZ.1 g.nd;have M:(w.c.aD.map (·.aM))[i]'(by simpa using hi)=(w.c.aD.getD i aG.zero).aM:=by
   rw[kA,cD,cF hi];rfl
  have K:(w.c.aD.map (·.aM))[j]'(by simpa using U)=z.aM:=by rw[kA,e]
  rcases kJ i j with h|h
  .exact F i j (by simpa using hi) (by simpa using U) h (by rw[M,K,B])
  .exact F j i (by simpa using U) (by simpa using hi) om (by rw[M,K,B])
def Good.lens{w:bD}(g:Good w):w.c.aF.length<=1000/\Lens w.c.aF:=g.v.lens'
def Good.sat{w:bD}(g:Good w):∃v,zD w=some (v,w.c.now,w.c.aF,w.c.aD,w.ev)/\(v=-1\/∃i:Nat,v=i/\i<w.c.aD.length/\(w.c.aD.getD i aG.zero).bJ=true/\w.c.aF≠[]):=
 Xs g.len g.lens.1 g.lens.2 λ y H K=>(g.ok y H K).e
def midW(w:bD)(i:Nat)(t:List aA)(y:aG)(ev:List bN):bD:=⟨⟨w.c.now,t,w.c.aD.set i y⟩,ev⟩
def cN2{i:Nat}{w:bD}(g:Good w)(hi:i<w.c.aD.length)(hw:(w.c.aD.getD i aG.zero).bJ=true)(hb:bud w<=500000){L:List aO}(hL:L.length<=8)(Y:qX (w.c.aD.getD i aG.zero).bK.bU=some (L,true)){O:List Bool}(hk:O.length=L.length){ev0:List bN}(h0:ev0.length<=w.ev.length+1):
  ∃H y ev,mF (IA ((i:Int),w) O L) (0,midW w i w.c.aF (w.c.aD.getD i aG.zero) ev0)=some (midW w i H y ev)/\Kept (w.c.aD.getD i aG.zero).aM w.c.aF H/\y.aM=(w.c.aD.getD i aG.zero).aM/\ev.length<=w.ev.length+321:=by
 have ok:=g.ok _ (mX hi) hw;have q0:w.ev.length<=500000:=by unfold bud at hb;omega
 obtain⟨x,h1,h2⟩:=nZ (body:=IA ((i:Int),w) O L) (λ g=>∃(k:Nat) (H:List aA) (y:aG) (ev:List bN) (B:List aO),g=((k:Int),midW w i H y ev)/\k<=L.length/\ev.length<=w.ev.length+1+40*k/\Kept (w.c.aD.getD i aG.zero).aM w.c.aF H/\
   Left (w.c.aD.getD i aG.zero) w.c.aF H B/\y.aM=(w.c.aD.getD i aG.zero).aM/\y.bH.aQ.length<=1000)
  (λ g=>L.length-g.1.toNat) (λ x=>∃(H:List aA) (y:aG) (ev:List bN),x=midW w i H y ev/\Kept (w.c.aD.getD i aG.zero).aM w.c.aF H/\y.aM=(w.c.aD.getD i aG.zero).aM/\ev.length<=w.ev.length+321)
  (λ g' ⟨k,H,y,ev,B,hg,hkl,he,hK,K,Z,V⟩=>by
   subst hg;unfold IA
   by_cases c:k<L.length
   .left;have M:0<=(k:Int)/\(k:Int)<(L.length:Int):=om
    have h4:(k:Int)<(O.length:Int):=om
    simp only[M.1,M.2,h4,cW,mR,cG,cH,Qm,mK k (show k<4611686018427387904 by omega)];cases hkp:O.getD k false with
    |false=>simp only[dO,cH];obtain⟨t2,x0,r1,r2,r3,r4⟩:=drop_left (w:=midW w i H y ev) g.v hK K ok.le (by show ev.length<=_;omega) ok.cov (ok.at_ L _ Y _ (mX (z:=aO.zero) c));rw[r1,eF];exact⟨_,rfl,⟨k+1,t2,y,ev++x0,B++[L.getD k aO.zero],rfl,c,by rw[cC];omega,r3,r4,Z,V⟩,by simp only[Qm];omega⟩
    |true=>
     simp only[cQ,bZ,cI];obtain⟨j,hj,hn⟩:=ok.at_ L _ Y _ (mX (z:=aO.zero) c);have y0:j<H.length:=by rw[hK.len];exact hj
     have F:=hK.find g.v hj;rw[hn]at F;have h6:=BJ hK.v.lens y0;have hl':=hK.v.lens'.1;have z0:((w.c.aD.set i y).getD i aG.zero)=y:=sH _ _ _ _ hi;show∃u0,(sY H (L.getD k aO.zero).name).bind _=_/\_;rw[z7 _ _ om,eF,F];show∃u0,gd (0<=(j:Int)/\(j:Int)<(H.length:Int)) ((sF (H.getD (j:Int).toNat aA.zero) _).bind _)=_/\_;rw[gdp om];simp only[Qm];rw[xO _ _ om,eF];have U:0<=(i:Int)/\(i:Int)<(((midW w i H y ev).c.aD.length:Nat):Int):=by show _/\(i:Int)<(((w.c.aD.set i y).length:Nat):Int);rw[dV];omega
     have p0:(midW w i H y ev).c.aD.getD i aG.zero=y:=z0;rw[gdp U,p0,BI _ _ om,eF];split
     .rw[gdp U];obtain⟨rr,e1,e2⟩:=cN0 y.bH ⟨(L.getD k aO.zero).name,nG y.bH.aQ (L.getD k aO.zero).name,getH (H.getD j aA.zero).aS (w.c.aD.getD i aG.zero).aM⟩;rw[e1,eF,gdp U];refine⟨_,rfl,⟨k+1,H,{y with bH:=rr.1},ev,B,?_,c,by omega,hK,K,Z,by show rr.1.aQ.length<=_;omega⟩,by simp only[Qm];omega⟩;show(((k+1:Nat):Int),(⟨(⟨w.c.now,H,((w.c.aD.set i y).set i _)⟩:bF),ev⟩:bD))=_;rw[gS];rfl
     .exact⟨_,rfl,⟨k+1,H,y,ev,B,rfl,c,by omega,hK,K,Z,V⟩,by simp only[Qm];omega⟩
   .right;simp only[show¬(k:Int)<(L.length:Int)by omega,cO,bZ,cI];exact⟨_,rfl,H,y,ev,rfl,hK,Z,by omega⟩) (0,midW w i w.c.aF (w.c.aD.getD i aG.zero) ev0) ⟨0,w.c.aF,w.c.aD.getD i aG.zero,ev0,[],rfl,by omega,by omega,Gt g.v,λ j hj=>.inr ⟨rfl,λ a ha=>by cases ha⟩,rfl,ok.le⟩
 obtain⟨H,y,ev,rfl,M,h4,h5⟩:=h2;exact⟨H,y,ev,h1,M,h4,h5⟩
structure Less (w w':bD):Prop where
 good:Good w'
 len:w'.c.aD.length=w.c.aD.length
 cnt:cntW w'.c.aD<=cntW w.c.aD
 bud:bud w'<=bud w
def cN3(w:bD)(i:Nat)(hi:i<w.c.aD.length)(ev:List bN):midW w i w.c.aF (w.c.aD.getD i aG.zero) ev=⟨⟨w.c.now,w.c.aF,w.c.aD⟩,ev⟩:=by unfold midW;rw[MB _ _ _ hi]
def cN4{i:Nat}{w:bD}(g:Good w)(hi:i<w.c.aD.length)(K:(w.c.aD.getD i aG.zero).bJ=true)(hb:bud w<=500000):
  ∃v w',FM ((i:Int),w)=some (.inl (v,w'))/\Less w w'/\cntW w'.c.aD<cntW w.c.aD/\(v=-1\/∃k:Nat,v=k/\k<w'.c.aD.length/\(w'.c.aD.getD k aG.zero).bJ=true):=by
 have ok:=g.ok _ (mX hi) K;have F:w.ev.length<=500000:=by unfold bud at hb;omega
 unfold FM;have M:0<=(i:Int)/\(i:Int)<(w.c.aD.length:Int):=om
 simp only[M.1,M.2,cW,mR,cG,cH,Qm];rw[Qv _ _ om,eF];obtain⟨bs,L',q1,q2,q3,_⟩:=Qu w.c.aF (w.c.aD.getD i aG.zero).aM (w.c.aD.getD i aG.zero).bK.bU g.lens.1 g.lens.2;obtain⟨L,a1,a2,V⟩:=DD (w.c.aD.getD i aG.zero).bK.bU;rw[q1,eF];obtain⟨h0,p1,p2⟩:=cLs ok.e bs V;rw[p1,eF,a1,eF];obtain⟨H,y,ev,Z,r2,r3,r4⟩:=cN2 g hi K hb a2 (by rw[V,ok.e]) p2 (ev0:=w.ev++[{bN.zero with kind:=2,aM:=(w.c.aD.getD i aG.zero).aM}]) (by simp);rw[cN3 w i hi]at Z;rw[Z,eF];unfold O1;have U:((midW w i H y ev).c.aD.getD i aG.zero)=y:=sH _ _ _ _ hi;have Y:i<(midW w i H y ev).c.aD.length:=by show i<(w.c.aD.set i y).length;rw[dV];exact hi
 rw[Xr (w:=midW w i H y ev) Y,eF,U];have e1:(midW w i H y ev).c.aD.set i (pD y)=w.c.aD.set i (pD y):=by show(w.c.aD.set i y).set i _=_;rw[gS]
 rw[e1];have B:i<(w.c.aD.set i (pD y)).length:=by rw[dV];exact hi
 rw[Gu (w:=⟨⟨_,_,w.c.aD.set i (pD y)⟩,_⟩) B,eF];simp only[sH _ _ _ _ hi,gS];have O:Good ⟨⟨w.c.now,H,w.c.aD.set i {pD y with gen:=pC (pD y).gen}⟩,ev⟩:=g.upd hi r2 (y:={pD y with gen:=pC (pD y).gen}) r3 (λ h=>by cases h) _ _;have x0:cntW (w.c.aD.set i {pD y with gen:=pC (pD y).gen})+1=cntW w.c.aD:=by
  have:=Xq hi {pD y with gen:=pC (pD y).gen};rw[K]at this
  simpa [pD]using this
 obtain⟨v,s1,s2⟩:=O.sat;show∃v w',(zD ⟨⟨w.c.now,H,w.c.aD.set i {pD y with gen:=pC (pD y).gen}⟩,ev⟩).bind _=_/\_;rw[s1,eF];refine⟨v,_,rfl,⟨O,by show(w.c.aD.set i _).length=_;rw[dV],by show cntW (w.c.aD.set i _)<=_;omega,by show ev.length+2000*cntW (w.c.aD.set i _)<=w.ev.length+2000*cntW w.c.aD;omega⟩,by show cntW (w.c.aD.set i _)<_;omega,?_⟩;rcases s2 with h|⟨k,h5,h6,h7,_⟩
 .exact .inl h
 .exact .inr ⟨k,h5,h6,h7⟩
def Less.refl{w:bD}(g:Good w):Less w w:=⟨g,rfl,dC _,dC _⟩
def Less.trans{a b c:bD}(h:Less a b)(k:Less b c):Less a c:=⟨k.good,k.len.trans h.len,dG k.cnt h.cnt,dG k.bud h.bud⟩
def MK{w:bD}(g:Good w)(hb:bud w<=500000):∃w',sN w=some w'/\Less w w':=by
 unfold sN;obtain⟨v,O,U⟩:=g.sat;rw[O,eF];obtain⟨x,Y,B⟩:=nZ (body:=FM) (λ z=>Less w z.2/\(z.1=-1\/∃k:Nat,z.1=k/\k<z.2.c.aD.length/\(z.2.c.aD.getD k aG.zero).bJ=true)) (λ z=>cntW z.2.c.aD) (λ x=>Less w x)
  (λ z ⟨K,L⟩=>by
   obtain⟨v,F⟩:=z;simp only at K L;rcases L with rfl|⟨k,rfl,M,H⟩
   .right;exact⟨F,rfl,K⟩
   .left;obtain⟨v',w',V,Z,e3,e4⟩:=cN4 K.good M H (dG K.bud hb);exact⟨(v',w'),V,⟨K.trans Z,e4⟩,e3⟩) (v,w) ⟨Less.refl g,by
   rcases U with h|⟨k,h5,h6,h7,_⟩
   .exact .inl h
   .exact .inr ⟨k,h5,h6,h7⟩⟩
 refine⟨x,?_,B⟩;show(mF _ (v,w)).bind _=_;rw[Y];rfl
def cN6{w:bD}(H:w.c.aF=[])(K:w.c.aD.length<=8)(O:∀y∈w.c.aD,y.bJ=true->vE y.bK.bU=true):sN w=some w:=by
 unfold sN;obtain⟨v,U,Y⟩:=Xs K (by rw[H];simp) (by rw[H];intro q h;cases h) O;rw[U,eF];rcases Y with rfl|⟨k,_,_,_,h⟩
 .rw[mP];rfl
 .exact absurd H h
def Xu{w:bD}(V:w.c.aD.length<=8):∃v,AD w=some (v,w.c.now,w.c.aF,w.c.aD,w.ev)/\(v=-1\/∃i:Nat,v=i/\i<w.c.aD.length/\(w.c.aD.getD i aG.zero).bJ=true):=by
 unfold AD;obtain⟨x,O,U⟩:=nZ (body:=Ks w) (λ g=>(∃i:Nat,g.2.2=i/\i<=w.c.aD.length)/\(g.1=-1\/∃i:Nat,g.1=i/\i<w.c.aD.length/\(w.c.aD.getD i aG.zero).bJ=true)) (λ g=>w.c.aD.length-g.2.2.toNat)
  (λ x=>x=-1\/∃i:Nat,x=i/\i<w.c.aD.length/\(w.c.aD.getD i aG.zero).bJ=true)
  (λ g ⟨⟨i,K,L⟩,hg⟩=>by
   obtain⟨b,Y,B⟩:=g;simp only at K hg;subst K;unfold Ks
   by_cases c:i<w.c.aD.length
   .left;have H:0<=(i:Int)/\(i:Int)<(w.c.aD.length:Int):=om
    simp only[H.1,H.2,cW,mR,cG,cH,Qm,mK i (show i<4611686018427387904 by omega)];split
    .rename_i h;simp only[bY]at h;exact⟨_,rfl,⟨⟨i+1,rfl,c⟩,.inr ⟨i,rfl,c,h.1.1.1⟩⟩,by simp only[Qm];omega⟩
    .exact⟨_,rfl,⟨⟨i+1,rfl,c⟩,hg⟩,by simp only[Qm];omega⟩
   .right;simp only[show¬(i:Int)<(w.c.aD.length:Int)by omega,cO,bZ,cI];exact⟨_,rfl,hg⟩) (-1,0,0) ⟨⟨0,rfl,by omega⟩,.inl rfl⟩
 rw[O,eF];exact⟨x,rfl,U⟩
def Xv{i:Nat}{w:bD}(g:Good w)(hi:i<w.c.aD.length)(K:(w.c.aD.getD i aG.zero).bJ=true)(hb:bud w<=500000):
  ∃U H,u7 (i:Int) w=some U/\uS (i:Int) U=some (H.c.now,H.c.aF,H.c.aD,H.ev)/\Good H/\H.c.aD.length=w.c.aD.length/\cntW H.c.aD<cntW w.c.aD/\bud H+1000<=bud w:=by
 obtain⟨Y,ev,L,M,Z,V,_,_⟩:=Xt g hi K hb;have O:i<(w.c.aD.set i (pD (w.c.aD.getD i aG.zero))).length:=by rw[dV];exact hi
 have B:=Gu (w:=⟨⟨w.c.now,Y,w.c.aD.set i (pD (w.c.aD.getD i aG.zero))⟩,w.ev++ev⟩) O;simp only[sH _ _ _ _ hi,gS]at B;have F:cntW (w.c.aD.set i {pD (w.c.aD.getD i aG.zero)with gen:=pC (pD (w.c.aD.getD i aG.zero)).gen})+1=cntW w.c.aD:=by
  have:=Xq hi {pD (w.c.aD.getD i aG.zero)with gen:=pC (pD (w.c.aD.getD i aG.zero)).gen};rw[K]at this
  simpa [pD]using this
 refine⟨_,⟨⟨w.c.now,Y,w.c.aD.set i {pD (w.c.aD.getD i aG.zero)with gen:=pC (pD (w.c.aD.getD i aG.zero)).gen}⟩,w.ev++ev⟩,M,B,g.upd hi V (y:={pD (w.c.aD.getD i aG.zero)with gen:=pC (pD (w.c.aD.getD i aG.zero)).gen}) rfl (λ h=>by cases h) _ _,by simp,by show cntW (w.c.aD.set i _)<_;omega,?_⟩;show(w.ev++ev).length+2000*cntW (w.c.aD.set i _)+1000<=w.ev.length+2000*cntW w.c.aD;rw[cC];omega
def Good.ev{w:bD}(g:Good w)(ev:List bN)(n:Int):Good ⟨⟨n,w.c.aF,w.c.aD⟩,ev⟩:=⟨g.v,g.len,g.nd,g.ok⟩
def cN9(n:Int){w:bD}(g:Good w)(hb:bud w<=400000):∃r,FP n w=some r/\r.2.c.aD.length<=100:=by
 unfold FP;split
 .exact⟨_,rfl,dG g.len Om⟩
 split
 .exact⟨_,rfl,dG g.len Om⟩
 have M:=g.ev w.ev (IntKind.i64.wrap (w.c.now+n));obtain⟨v,V,Z⟩:=Xu (w:=⟨⟨IntKind.i64.wrap (w.c.now+n),w.c.aF,w.c.aD⟩,w.ev⟩) g.len;rw[V,eF];obtain⟨x,h1,h2⟩:=nZ (body:=LQ) (λ z=>Good z.2/\bud z.2<=400000/\(z.1=-1\/∃k:Nat,z.1=k/\k<z.2.c.aD.length/\(z.2.c.aD.getD k aG.zero).bJ=true)) (λ z=>cntW z.2.c.aD) (λ x=>x.c.aD.length<=8)
  (λ z ⟨hg,K,L⟩=>by
   obtain⟨v,H⟩:=z;simp only at hg K L;rcases L with rfl|⟨k,rfl,hk,U⟩
   .right;exact⟨H,rfl,hg.len⟩
   .left;have h0:H.ev.length<=400000:=by unfold bud at K;omega
    unfold LQ;have Y:0<=(k:Int)/\(k:Int)<(H.c.aD.length:Int):=om
    simp only[Y.1,Y.2,cW,mR,cG,cH,Qm];rw[Qv _ _ om,eF];have gn:=hg.ev (H.ev++[{bN.zero with kind:=4,aM:=(H.c.aD.getD k aG.zero).aM}]) H.c.now;obtain⟨wa,B,r1,r2,r3,r4,r5,r6⟩:=Xv (w:=⟨⟨H.c.now,H.c.aF,H.c.aD⟩,H.ev++[{bN.zero with kind:=4,aM:=(H.c.aD.getD k aG.zero).aM}]⟩) gn hk U (by unfold bud at K⊢;simp only[cC,Km];omega);have x0:bud B+999<=bud H:=by
     have:bud (⟨⟨H.c.now,H.c.aF,H.c.aD⟩,H.ev++[{bN.zero with kind:=4,aM:=(H.c.aD.getD k aG.zero).aM}]⟩:bD)=bud H+1:=by unfold bud;simp only[cC,Km];omega
     omega
    rw[r1,eF,r2,eF];obtain⟨F,s1,O⟩:=MK r3 om;show∃g',(sN B).bind _=_/\_;rw[s1,eF];obtain⟨v2,e3,e4⟩:=Xu O.good.len;rw[e3,eF];refine⟨_,rfl,⟨O.good.ev _ _,?_,e4⟩,?_⟩
    .have:=O.bud;show bud F<=_;omega
    .have:=O.cnt;show cntW F.c.aD<cntW H.c.aD;exact Nat.lt_of_le_of_lt this r5) (v,⟨⟨IntKind.i64.wrap (w.c.now+n),w.c.aF,w.c.aD⟩,w.ev⟩) ⟨M,hb,Z⟩
 show∃r,(mF _ (v,_)).bind _=some r/\_;rw[h1];exact⟨_,rfl,dG h2 Om⟩
def cNa(p:aK)(cost:Int){w:bD}(L:w.c.aD.length<=8):∃r,AT p cost w=some r/\r.2.c.aD.length<=100:=by
 unfold AT;split
 .exact⟨_,rfl,by simp only;omega⟩
 obtain⟨v,O,_⟩:=Qt w.c.aD p om;rw[O,eF];split
 .exact⟨_,rfl,by simp only;omega⟩
 split
 .exact⟨_,rfl,by simp only;omega⟩
 rw[gdp om];obtain⟨x,H,U⟩:=nZ (body:=K2) (λ g=>0<=g.1/\g.1<(g.2.length:Int)/\g.2.length<=100) (λ g=>g.1.toNat) (λ x=>x.length<=100) (λ g ⟨K,O,H⟩=>by
  obtain⟨i,l⟩:=g;simp only at K O H;unfold K2
  by_cases c:0<i
  .have e:IntKind.i64.wrap (i-1)=i-1:=mH om om;simp only[c,cG,e,cL];rw[gdp (by intro;omega),gdp (by intro;omega)];split
   .left;rw[gdp ⟨K,O⟩,gdp om,gdp ⟨K,O⟩,gdp om];exact⟨_,rfl,⟨by simp only;omega,by simp only[dV];omega,by simp only[dV];exact H⟩,by simp only;omega⟩
   .exact .inr ⟨_,rfl,H⟩
  .simp only[c,cO,eY,bZ,cI];rw[gdp (by intro h;cases h),gdp (by intro h;cases h)];exact .inr ⟨_,rfl,H⟩) (IntKind.i64.wrap (((w.c.aD.length+1:Nat):Int)-1),w.c.aD++[{aG.zero with aM:=p,cost:=cost}])
  ⟨by simp only;rw[mH om om];omega,by simp only[cC,Km];rw[mH om om];omega,by simp only[cC,Km];omega⟩
 rw[H,eF];exact⟨_,rfl,U⟩
def Good.other{w:bD}(g:Good w){i j:Nat}(hi:i<w.c.aD.length)(H:j<w.c.aD.length)(h:i≠j):(w.c.aD.getD j aG.zero).aM≠(w.c.aD.getD i aG.zero).aM:=by
 intro e;have U:=eZ.1 g.nd;have gg:∀k,(O:k<w.c.aD.length)->(w.c.aD.map (·.aM))[k]'(by simpa using O)=(w.c.aD.getD k aG.zero).aM:=λ k O=>by rw[kA,cD,cF O];rfl
 rcases kJ i j with c|c
 .exact U i j (by simpa using hi) (by simpa using H) c (by rw[gg i hi,gg j H,e])
 .exact U j i (by simpa using H) (by simpa using hi) om (by rw[gg i hi,gg j H,e])
def cNb{t:List aA}(h:ValidT t)(p:aK):Kept p t (remT t p).1:=by
 have L:=cKo h p;rw[Qn h]at L⊢;have H:∀i,i<t.length->(t.map (remN · p)).getD i aA.zero=remN (t.getD i aA.zero) p:=λ i K=>by rw[cD,cV,cD,cF K];rfl
 refine⟨L,by simp,λ i K=>?_,λ i K x O=>?_⟩
 .show((t.map (remN · p)).getD i aA.zero).aB=_;rw[H i K];exact MC (h.each _ (mX K)) p
 .show covA _ (getH ((t.map (remN · p)).getD i aA.zero).aS x) _=true;rw[H i K];exact(V8 (h.each _ (mX K)) O).1
def Xw{i:Nat}{w:bD}(g:Good w)(hi:i<w.c.aD.length)(hb:bud w<=400000):∃r,FT (i:Int) w=some r/\r.c.aD.length<=100:=by
 unfold FT;have Y:w.ev.length<=400000:=by unfold bud at hb;omega
 have L:=g.len;have B:=cKp g.v (w.c.aD.getD i aG.zero).aM;rw[gdp om,cKk,eF];simp only[Qm];rw[DE _ _ _ om,eF];have F:IntKind.i64.wrap ((i:Int)+1)=((i+1:Nat):Int):=mK i om;simp only[F,Qm];rw[gdp ⟨by omega,by omega,by omega,trivial⟩,gdp om,gdp (by simp only[dD,dS];omega)];rw[Qv _ _ (by show(w.ev++_).length<=_;rw[cC];omega),eF];have H:(w.c.aD.take i++(w.c.aD.drop (i+1)).take (w.c.aD.length-(i+1))).Sublist w.c.aD:=by
  have e:w.c.aD=w.c.aD.take i++w.c.aD.drop i:=(eO _ _).symm
  conv=>rhs;rw[e]
  refine(List.Sublist.refl _).append ((List.take_sublist _ _).trans ?_);rw[show w.c.aD.drop (i+1)=(w.c.aD.drop i).drop 1 by rw[eV]];exact List.drop_sublist _ _
 have k:=cNb g.v (w.c.aD.getD i aG.zero).aM;have K:∀y∈w.c.aD.take i++(w.c.aD.drop (i+1)).take (w.c.aD.length-(i+1)),∃j,j<w.c.aD.length/\i≠j/\w.c.aD.getD j aG.zero=y:=λ y hy=>by
  rcases cX.1 hy with hy|hy
  .obtain⟨j,O,e⟩:=wO (z:=aG.zero) hy;rw[dD]at O;refine⟨j,by omega,by omega,?_⟩;rw[<-e,O7 _ _ _ _ om]
  .obtain⟨j,O,e⟩:=wO (z:=aG.zero) (gD hy);rw[dS]at O;refine⟨i+1+j,by omega,by omega,?_⟩;rw[<-e,cD,cD,eG]
 have M:Good ⟨⟨w.c.now,(remT w.c.aF (w.c.aD.getD i aG.zero).aM).1,w.c.aD.take i++(w.c.aD.drop (i+1)).take (w.c.aD.length-(i+1))⟩,(w.ev++(remT w.c.aF (w.c.aD.getD i aG.zero).aM).2)++[{bN.zero with kind:=5,aM:=(w.c.aD.getD i aG.zero).aM}]⟩:=by refine⟨k.v,dG H.length_le L,g.nd.sublist (H.map _),λ y hy V=>?_⟩;obtain⟨j,O,U,rfl⟩:=K y hy;exact(g.ok _ (mX O) V).kept k (g.other hi O U)
 have hc:cntW (w.c.aD.take i++(w.c.aD.drop (i+1)).take (w.c.aD.length-(i+1)))<=cntW w.c.aD:=H.countP_le;obtain⟨w',Z,h9⟩:=MK M (by unfold bud at hb⊢;simp only[cC,Km];omega);exact⟨w',by show(sN _).bind _=_;rw[Z];rfl,dG h9.good.len Om⟩
def cNd{q:aA}{p:aK}{a:aC}{pr:Int}(O:(qM q p a pr).2.2=0)(x:aK):covA q.aB (getH (qM q p a pr).1.aS x) (getH q.aS x)=true:=by
 obtain⟨U,_,_,_,_,h⟩:=Me O;rcases h with⟨_,e⟩|⟨_,_,e,H⟩|⟨_,_,_,e,H⟩
 .rw[e];exact y5 (Bz U.hv x)
 .rw[e,xQ];exact IW H x
 .rw[e,xQ];exact IW H x
def Xx{t:List aA}{nm:ByteArray}{f:aA->ResT}(H:∀q,(f q).2.2≠0->(f q).1=[]/\(f q).2.1=[])(h:(atT t nm f).2.2≠0):(atT t nm f).1=[]/\(atT t nm f).2.1=[]:=by
 unfold atT at h⊢;split
 .exact⟨rfl,rfl⟩
 .rename_i O;rw[bX O]at h;split
  .exact⟨rfl,rfl⟩
  .rename_i K;rw[bX K]at h;exact H _ h
def Xy{t:List aA}{nm:ByteArray}{x:aA×List bA×Int}{ev:List bN}(h:(putT t nm x ev).2.2≠0):(putT t nm x ev).1=[]/\(putT t nm x ev).2.1=[]:=by
 unfold putT at h⊢;split
 .rename_i c;rw[cA c]at h;exact absurd rfl h
 .exact⟨rfl,rfl⟩
def cNg{t:List aA}(h:ValidT t)(p:aK)(a:aO)(pr:Int):(vI t p a pr).2.1.length<=20/\((vI t p a pr).1=[]\/∀O,Kept O t (vI t p a pr).1):=by
 by_cases e:(vI t p a pr).2.2=0
 .obtain⟨i,L,Z,h2,U,B,h5,Y⟩:=cL0 e;have H:=h.each _ (mX (z:=aA.zero) L);have F:=Dz H (.claim p a.aI pr U);refine⟨?_,.inr λ O=>by rw[B]at Y⊢;exact MJ h L Y F.2 λ x _=>cNd U x⟩;unfold vI at e⊢;obtain⟨_,M,_,_,_,V⟩:=Jo e;rw[V]at e⊢;cases K:wN t p with
  |true=>rw[K,cA rfl]at e;exact absurd e Om
  |false=>rw[K,bX Om]at e;rw[bX Om,(Jp e).2];have:=(Wh (t.getD M aA.zero) p a.aI pr).2.2.2;show([]++uF _ _).length<=20;rw[lP,Gp];omega
 .have:=Xx (t:=t) (nm:=a.name) (f:=λ q=>if wN t p=true then errT 4 else putT t a.name (qM q p a.aI pr) []) (λ q H=>by
   cases K:wN t p with
   |true=>exact⟨rfl,rfl⟩
   |false=>rw[K,bX Om]at H;rw[bX Om];exact Xy H) e
  exact⟨by rw[show(vI t p a pr).2.1=[]from this.2];simp,.inl this.1⟩
def cNh{t:List aA}(h:ValidT t)(p:aK)(a:aO):(qZ t p a).2.1.length<=20/\((qZ t p a).1=[]\/Kept p t (qZ t p a).1):=by
 by_cases e:(qZ t p a).2.2=0
 .obtain⟨Y,O⟩:(∃i:Nat,i<t.length/\(oQ (t.getD i aA.zero) p a.aI).2.2=0/\(qZ t p a).1=t.set i (oQ (t.getD i aA.zero) p a.aI).1)/\(qZ t p a).2.1.length<=20:=by
   unfold qZ at e⊢;obtain⟨_,i,B,F,U,M⟩:=Jo e;rw[M]at e⊢;obtain⟨V,Z⟩:=Jp e;rw[Z,B,Gr];refine⟨⟨i,F,V,rfl⟩,?_⟩;have:=(PL (t.getD i aA.zero) p a.aI).2.2.2;show((if getH (t.getD i aA.zero).aS p=a.aI then([]:List bN)else[Dx p a.name a.aI])++uF _ _).length<=20;rw[cC,Gp];have:(if getH (t.getD i aA.zero).aS p=a.aI then([]:List bN)else[Dx p a.name a.aI]).length<=1:=by split<;>simp
   omega
  obtain⟨i,K,U,h4⟩:=Y;obtain⟨_,_,_,_,L⟩:=Xe e;have H:=h.each _ (mX (z:=aA.zero) K);have hs:=Dz H (.lower p a.aI U);obtain⟨_,_,hz,hw,hc,_⟩:=Ge U;have he:=Xo H hz hw hc;exact⟨O,.inr (by rw[h4]at L⊢;exact MJ h K L hs.2 he.2.1)⟩
 .have:=Xx (t:=t) (nm:=a.name) (f:=λ q=>putT t a.name (oQ q p a.aI) (if getH q.aS p=a.aI then[]else[Dx p a.name a.aI])) (λ q H=>Xy H) e;exact⟨by rw[show(qZ t p a).2.1=[]from this.2];simp,.inl this.1⟩
def Xz(a:aC):pX a=true↔(1<=a.mode/\a.mode<=5/\a.aU=0)\/(a.mode=0/\1<=a.aU/\a.aU<=8):=by unfold pX sX;simp only[dU,bY,cB];omega
def cNj{r:aJ}{F a b:aC}(hg:n8 a b=true)(Y:covA r F b=true):covA r F a=true:=by
 have V:oI r=true:=by
  rcases(perm_iff r b).1 ((uE _ _ _).1 Y).2.1 with h|h
  .exact h.1
  .exact Vv h
 unfold n8 at hg
 by_cases U:pX b=true/\a≠b
 .rw[bX (by simp[U.1,U.2])]at hg
  by_cases B:a=aC.zero
  .rw[B];exact Pw ((uE _ _ _).1 Y).1 V
  .have M:¬a=({aC.zero with}:aC):=B;rw[bX (by simpa using M)]at hg
   by_cases K:pX a=true
   .rw[bX (by simp[K])]at hg;have H:b≠aC.zero:=λ e=>by rw[e]at U;exact absurd U.1 Om
    have O:mS r b=true:=by
     rcases(perm_iff r b).1 ((uE _ _ _).1 Y).2.1 with h|h
     .exact absurd h.2 H
     .exact h
    have ub:=(Xz b).1 U.1;have ua:=(Xz a).1 K;have Z:covA r b a=true:=by
     rw[uE];rw[rY]at O
     by_cases hm:a.mode=0
     .rw[bX (by simp[hm])]at hg;have hg:=gH hg;have fa:mS r a=true:=(rY r a).2 om;exact⟨rM ((rY r b).2 O),rM fa,.inr ⟨H,B,.inr ⟨by omega,by omega⟩⟩⟩
     .rw[cA (by simp[hm])]at hg;have x0:=(F8 b.mode a.mode).1 hg;have fa:mS r a=true:=(rY r a).2 om;exact⟨rM ((rY r b).2 O),rM fa,.inr ⟨H,B,.inl ⟨by omega,hg⟩⟩⟩
    exact Md Y Z
   .rw[cA (by simp[K])]at hg;cases hg
 .rw[cA (by
   by_cases L:pX b=true
   .have:a=b:=Decidable.byContradiction λ h=>U ⟨L,h⟩;simp[this]
   .simp[L])]at hg
  cases hg
def XA{l:bB}(h:LedgerP l){r:aJ}{n:ByteArray}(O:mS r (nG l.aQ n)=true):∀d k,k+d=l.aQ.length->covA r (nG l.aQ n) (nG (l.aQ.take k) n)=true
 |0,k,e=>by rw[show k=l.aQ.length by omega,eU];exact y5 (rM O)
 |d+1,k,e=>by
  have H:=XA h O d (k+1) om;have U:k<l.aQ.length:=om
  rw[vJ bO.zero U,Qo]at H;have hg:=h.grow k U
  by_cases c:(l.aQ.getD k bO.zero).name=n
  .rw[cA c]at H;rw[c]at hg;rw[<-hg.1];exact cNj hg.2 H
  .rw[bX c]at H;exact H
def cNl{l:bB}(h:LedgerP l){e:bO}(O:e∈l.aQ):nG l.aQ e.name≠aC.zero:=by
 have H:∀d k,k+d=l.aQ.length->(∃x∈l.aQ.take k,x.name=e.name)->nG (l.aQ.take k) e.name≠aC.zero:=by
  have U:∀k,k<=l.aQ.length->(∃x∈l.aQ.take k,x.name=e.name)->nG (l.aQ.take k) e.name≠aC.zero:=by
   intro k;induction k with
   |zero=>intro _ ⟨x,hx,_⟩;cases hx
   |succ k Y=>
    intro F ⟨x,hx,K⟩;rw[vJ bO.zero om,Qo]
    by_cases c:(l.aQ.getD k bO.zero).name=e.name
    .rw[cA c];have hg:=(h.grow k om).2;intro B;rw[B]at hg;unfold n8 at hg;rw[cA (by simp[show pX aC.zero=false by decide])]at hg;cases hg
    .rw[bX c];refine Y om ?_;rw[vJ bO.zero om]at hx;rcases cX.1 hx with hx|hx
     .exact⟨x,hx,K⟩
     .rw[dQ]at hx;subst hx;exact absurd K c
  exactλ d k e=>U k om
 have:=H 0 l.aQ.length om ⟨e,by rw[eU];exact O,rfl⟩;rwa [eU]at this
def cNm{t:List aA}(K:ValidT t){x:aG}(V:ProcC t x){L:List aO}(Y:∀a∈L,∃q∈t,q.aB.name=a.name/\mS q.aB a.aI=true){q:aA}(U:q∈t)(B:Jq q x L):
  covA q.aB (getH q.aS x.aM) (nG x.bH.aQ q.aB.name)=true:=by
 have Z:=((qR _).1 (K.each _ U)).1.hv;have O:=Bz Z x.aM;have H:getH q.aS x.aM=nG x.bH.aQ q.aB.name->covA q.aB (getH q.aS x.aM) (nG x.bH.aQ q.aB.name)=true:=λ e=>by rw[<-e];exact y5 O
 rcases B with⟨a,ha,F,M,h⟩|⟨h,_⟩
 .rcases h with⟨_,h⟩|h
  .by_cases z:nG x.bH.aQ q.aB.name=aC.zero
   .rw[z];exact Pw O (cE6 (K.each _ U))
   .obtain⟨q1,m1,n1,f1⟩:=V.held _ z;have e1:=K.inj m1 U n1;subst e1;obtain⟨q2,m2,n2,f2⟩:=Y a ha;have e2:=K.inj m2 U (n2.trans F);subst e2;rw[h];exact(V3 f1 f2 M).2.1
  .exact H h
 .exact H h
def Qw{t:List aA}{n:ByteArray}(h:∃q∈t,q.aB.name=n):∃i,i<t.length/\(t.getD i aA.zero).aB.name=n:=by obtain⟨q,H,e⟩:=h;obtain⟨i,K,rfl⟩:=wO (z:=aA.zero) H;exact⟨i,K,e⟩
def CenP.good{c:bF}(h:CenP c)(ev:List bN):Good ⟨c,ev⟩:=by
 refine⟨h.t,h.len,?_,λ y Z hw=>?_⟩
 .have:=h.asc;rw[List.Nodup,kU];exact this.imp λ K e=>by rw[e]at K;exact F5 _ K
 .have H:=h.each y Z;obtain⟨U,O⟩:=H.wait hw;refine⟨U,by have:=H.led.le;omega,λ L b Y a ha=>?_,λ i V=>?_⟩
  .obtain⟨q,B,e,_⟩:=(O L b Y).1 a ha;exact Qw ⟨q,B,e⟩
  .obtain⟨v,F,h4⟩:=MF y.bK.bU;obtain⟨M,h6⟩:=O v.1 v.2 F;exact cNm h.t H M (mX V) (h6 _ (mX V))
def Qx(p:aK):aK:={p with site:=p.site+1}
def cNp(p:aK):p≠Qx p:=λ e=>by have:=dZ aK.site e;unfold Qx at this;simp only at this;omega
def cNq{w:bD}{i:Nat}(hi:i<w.c.aD.length)(r:bP){L:List aO}(M:L.length<=8)(g:Good w)(hb:bud w<=400000):
  ∃w',mF (IE (i:Int) r L) (0,w)=some w'/\w'.c.aD=w.c.aD/\w'.ev.length<=w.ev.length+160/\(Good w'\/w'.c.aF=[]):=by
 have Y:w.ev.length<=400000:=by unfold bud at hb;omega
 obtain⟨x,B,F⟩:=nZ (body:=IE (i:Int) r L) (λ z=>(∃k:Nat,z.1=k/\k<=L.length/\z.2.ev.length<=w.ev.length+20*k)/\z.2.c.aD=w.c.aD/\(Good z.2\/z.2.c.aF=[])) (λ z=>L.length-z.1.toNat)
  (λ x=>x.c.aD=w.c.aD/\x.ev.length<=w.ev.length+160/\(Good x\/x.c.aF=[]))
  (λ z ⟨⟨k,V,Z,he⟩,K,hg⟩=>by
   obtain⟨z1,H⟩:=z;simp only at V he K hg;subst V;unfold IE
   by_cases c:k<L.length
   .left;have U:0<=(k:Int)/\(k:Int)<(L.length:Int):=om
    simp only[U.1,U.2,cW,mR,cG,cH,Qm,mK k (show k<4611686018427387904 by omega)];rw[gdp (by rw[K];omega),cK6,eF];rcases hg with hg|hg
    .obtain⟨c1,c2⟩:=cNg hg.v (H.c.aD.getD i aG.zero).aM (L.getD k aO.zero) r.bE;rw[DE _ _ _ om,eF];refine⟨_,rfl,⟨⟨k+1,rfl,c,by simp only[cC];omega⟩,K,?_⟩,by simp only[Qm];omega⟩;rcases c2 with c2|c2
     .exact .inr c2
     .exact .inl ⟨(c2 aK.zero).v,hg.len,hg.nd,λ y hy hw=>(hg.ok y hy hw).kept (c2 (Qx y.aM)) (cNp _)⟩
    .have O:vI H.c.aF (H.c.aD.getD i aG.zero).aM (L.getD k aO.zero) r.bE=errT 10:=by
      rw[hg];rfl
     rw[O,DE _ _ _ (by simp[errT];omega),eF];exact⟨_,rfl,⟨⟨k+1,rfl,c,by simp only[errT,dY];omega⟩,K,.inr rfl⟩,by simp only[Qm];omega⟩
   .right;simp only[show¬(k:Int)<(L.length:Int)by omega,cO,bZ,cI];exact⟨_,rfl,K,by omega,hg⟩) (0,w) ⟨⟨0,rfl,by omega,by simp⟩,rfl,.inl g⟩
 exact⟨x,B,F⟩
def Qy{w:bD}(h:Good w/\bud w<=500000\/w.c.aF=[]/\w.c.aD.length<=8/\∀y∈w.c.aD,y.bJ=true->vE y.bK.bU=true):∃w',sN w=some w'/\w'.c.aD.length<=100:=by
 rcases h with⟨h,hb⟩|⟨H,O,U⟩
 .obtain⟨w',H,Y⟩:=MK h hb;exact⟨w',H,dG Y.good.len Om⟩
 .exact⟨w,cN6 H O U,by omega⟩
def Gv{w:bD}(H:w.c.aD.length<=8):bud w<=w.ev.length+16000:=by have:=cMt w.c.aD;unfold bud;omega
def cNt{i:Nat}{c:bF}(h:CenP c)(hi:i<c.aD.length)(r:bP):∃x,FQ (i:Int) r ⟨c,[]⟩=some x/\x.2.c.aD.length<=100:=by
 have g:=h.good [];have B:=h.each _ (mX (z:=aG.zero) hi);unfold FQ;show∃x,gd (0<=(i:Int)/\(i:Int)<((c.aD.length:Nat):Int)) (if(c.aD.getD (i:Int).toNat aG.zero).bJ=true then _ else _)=some x/\_;rw[gdp om];simp only[Qm];cases hw:(c.aD.getD i aG.zero).bJ with
 |true=>rw[cA rfl];exact⟨_,rfl,dG h.len Om⟩
 |false=>
 rw[bX Om];have M:∃b,wB r=some b/\(b=true->vE r.bU=true):=by unfold wB;rw[Jd,eF];refine⟨_,rfl,λ h=>?_⟩;simp only[bY]at h;exact h.1.1.1.1
 obtain⟨b7,v1,v2⟩:=M;rw[v1,eF];cases b7 with
 |false=>exact⟨_,rfl,dG h.len Om⟩
 |true=>
 have O:=v2 rfl;obtain⟨Z,hs⟩:=h.t.lens';obtain⟨v9,r1,r2⟩:=Xk (c.aF.map (·.aB)) r.bU (by simpa using Z);simp only[cQ,bZ,cI,Xj _ Z,qm,r1]
 by_cases U:v9=0
 .simp only[U,cG,cQ,bZ,cI];have Y:0<=(i:Int)/\(i:Int)<((c.aD.length:Nat):Int):=om
  rw[gdp Y,gdp Y,gdp Y];simp only[gS,sH _ _ _ _ hi];have hn:=λ(y:aG)=>Gu (i:=i) (w:=⟨⟨c.now,c.aF,c.aD.set i y⟩,[]⟩) (by show i<(c.aD.set i y).length;rw[dV];exact hi);obtain⟨L,a1,a2,a3⟩:=DD r.bU;rw[hn,eF,a1,eF];simp only[sH _ _ _ _ hi,gS];have H:Good ⟨⟨c.now,c.aF,c.aD.set i {{{{c.aD.getD i aG.zero with bJ:=true}with bK:=r}with since:=c.now}with gen:=pC (c.aD.getD i aG.zero).gen}⟩,[]⟩:=
   g.upd (w:=⟨c,[]⟩) hi (Gt h.t) (y:={{{{c.aD.getD i aG.zero with bJ:=true}with bK:=r}with since:=c.now}with gen:=pC (c.aD.getD i aG.zero).gen}) rfl (λ _=>⟨O,by have:=B.led.le;show(c.aD.getD i aG.zero).bH.aQ.length<=_;omega,λ L' b hL a ha=>by
    obtain⟨h0,hr,e1,_⟩:=r2 U L' b hL a ha;obtain⟨q,hq,rfl⟩:=cR.1 hr;exact Qw ⟨q,hq,e1⟩,λ j F=>by
    have:=(B.run hw _ (mX (z:=aA.zero) (show j<c.aF.length from F))).1;show covA (c.aF.getD j aA.zero).aB (getH (c.aF.getD j aA.zero).aS (c.aD.getD i aG.zero).aM) (nG (c.aD.getD i aG.zero).bH.aQ (c.aF.getD j aA.zero).aB.name)=true;rw[<-this];exact y5 (Bz ((qR _).1 (h.t.each _ (mX (z:=aA.zero) F))).1.hv _)⟩) _ _
  obtain⟨w',l1,l2,l3,l4⟩:=cNq (i:=i) (by show i<(c.aD.set i _).length;rw[dV];exact hi) r a2 H (dG (Gv H.len) (by simp));rw[l1,eF];unfold O4;have K:w'.c.aD.length<=8:=by rw[l2];exact H.len
  obtain⟨w2,s1,s9⟩:=Qy (w:=w') (by
   rcases l4 with l4|l4
   .exact .inl ⟨l4,dG (Gv K) (by simp only[Ym]at l3;omega)⟩
   .exact .inr ⟨l4,K,λ y hy V=>by rw[l2]at hy;exact(H.ok y hy V).e⟩)
  rw[s1];exact⟨_,rfl,s9⟩
 .simp only[U,cO,dO,cH];exact⟨_,rfl,dG h.len Om⟩
def cNu(l:bB)(n:ByteArray):∃r,A8 l n=some r:=by
 unfold A8;obtain⟨b,Y,B⟩:=DC l;rw[Y,eF];cases b with
 |false=>exact⟨_,rfl⟩
 |true=>
 have U:=B rfl;have F:=U.le;have M:=U.ls;simp only[cQ,bZ,cI];rw[gdp om];have H:∀(v:Int×bB) (x:bB),x.bI.length=l.bI.length->∃y,mF (H8 l v) (0,x)=some y/\y.aQ=x.aQ/\y.bI.length=l.bI.length:=λ v x hx=>
  nZ (body:=H8 l v) (λ g=>∃k:Nat,g.1=k/\k<=l.bI.length/\g.2.aQ=x.aQ/\g.2.bI.length=l.bI.length) (λ g=>l.bI.length-g.1.toNat) (λ y=>y.aQ=x.aQ/\y.bI.length=l.bI.length)
   (λ g ⟨k,V,Z,L,K⟩=>by
    obtain⟨g1,y⟩:=g;simp only at V L K;subst V;unfold H8
    by_cases c:k<l.bI.length
    .left;have O:0<=(k:Int)/\(k:Int)<(l.bI.length:Int):=om
     simp only[K,O.1,O.2,cW,mR,cG,cH,Qm,mK k (show k<4611686018427387904 by omega)];split
     .exact⟨_,rfl,⟨k+1,rfl,c,L,by simp only[dV];exact K⟩,by simp only[Qm];omega⟩
     .exact⟨_,rfl,⟨k+1,rfl,c,L,K⟩,by simp only[Qm];omega⟩
    .right;simp only[K,show¬(k:Int)<(l.bI.length:Int)by omega,cO,bZ,cI];exact⟨_,rfl,L,K⟩) (0,x) ⟨0,rfl,by omega,rfl,hx⟩
 obtain⟨x,O,_⟩:=nZ (body:=Fh l n) (λ g=>∃k:Nat,g.1=k/\k<=l.aQ.length/\g.2.aQ.length<=k/\g.2.bI.length=l.bI.length) (λ g=>l.aQ.length-g.1.toNat) (λ _=>True)
  (λ g ⟨k,V,Z,L,K⟩=>by
   obtain⟨g1,y⟩:=g;simp only at V L K;subst V;unfold Fh
   by_cases c:k<l.aQ.length
   .left;have O:0<=(k:Int)/\(k:Int)<(l.aQ.length:Int):=om
    have h5:y.aQ.length+1<=4294967296:=om
    simp only[O.1,O.2,h5,cW,mR,cG,cH,Qm,mK k (show k<4611686018427387904 by omega)];split
    .exact⟨_,rfl,⟨k+1,rfl,c,by simp only[cC,Km];omega,K⟩,by simp only[Qm];omega⟩
    .obtain⟨z,e1,e2,e3⟩:=H ((k:Int),y) y K;rw[e1,eF];unfold OP;exact⟨_,by rw[mK k om],⟨k+1,rfl,c,by simp only[e2];omega,e3⟩,by simp only[Qm];omega⟩
   .right;simp only[show¬(k:Int)<(l.aQ.length:Int)by omega,cO,bZ,cI];exact⟨_,rfl,trivial⟩) (0,⟨[],l.bI⟩) ⟨0,rfl,by omega,by simp,rfl⟩
 rw[O,eF];unfold OO;split<;>exact⟨_,rfl⟩
def cNv{i:Nat}{c:bF}(h:CenP c)(hi:i<c.aD.length)(nm:ByteArray):∃x,IF (i:Int) nm ⟨c,[]⟩=some x/\x.2.c.aD.length<=100:=by
 have g:=h.good [];have O:=h.each _ (mX (z:=aG.zero) hi);unfold IF;show∃x,gd (0<=(i:Int)/\(i:Int)<((c.aD.length:Nat):Int)) (if(c.aD.getD (i:Int).toNat aG.zero).bJ=true then _ else _)=some x/\_;have H:0<=(i:Int)/\(i:Int)<((c.aD.length:Nat):Int):=om
 rw[gdp H];simp only[Qm];cases Z:(c.aD.getD i aG.zero).bJ with
 |true=>rw[cA rfl];exact⟨_,rfl,dG h.len Om⟩
 |false=>
 rw[bX Om,gdp H,BI _ _ (by have:=O.led.le;omega),eF];split
 .exact⟨_,rfl,dG h.len Om⟩
 obtain⟨M,c2⟩:=cNh h.t (c.aD.getD i aG.zero).aM (⟨nm,aO.zero.aI⟩:aO);rw[gdp H,Qk,eF,DE _ _ _ (by simp only[lU];omega),eF];obtain⟨r,U⟩:=cNu (c.aD.getD i aG.zero).bH nm;simp only;rw[gdp H,U,eF,gdp H];have Y:=λ(t:List aA) (ev:List bN) (y:aG)=>Gu (i:=i) (w:=⟨⟨c.now,t,c.aD.set i y⟩,ev⟩) (by show i<(c.aD.set i y).length;rw[dV];exact hi);rw[Y,eF];simp only[sH _ _ _ _ hi,gS];obtain⟨w',B,F⟩:=Qy (w:=⟨⟨c.now,(qZ c.aF (c.aD.getD i aG.zero).aM (⟨nm,aO.zero.aI⟩:aO)).1,c.aD.set i {{c.aD.getD i aG.zero with bH:=r.1}with gen:=pC (c.aD.getD i aG.zero).gen}⟩,[]++(qZ c.aF (c.aD.getD i aG.zero).aM (⟨nm,aO.zero.aI⟩:aO)).2.1⟩) (by
  have L:(c.aD.set i {{c.aD.getD i aG.zero with bH:=r.1}with gen:=pC (c.aD.getD i aG.zero).gen}).length<=8:=by rw[dV];exact h.len
  rcases c2 with c2|c2
  .refine .inr ⟨c2,L,λ y V K=>?_⟩;rcases iL V with V|rfl
   .exact(g.ok y V K).e
   .have:(c.aD.getD i aG.zero).bJ=true:=K;rw[Z]at this;cases this
  .refine .inl ⟨g.upd (w:=⟨c,[]⟩) hi c2 (y:={{c.aD.getD i aG.zero with bH:=r.1}with gen:=pC (c.aD.getD i aG.zero).gen}) rfl (λ K=>?_) _ _,dG (Gv L) (by simp only[cC,Ym];omega)⟩;have:(c.aD.getD i aG.zero).bJ=true:=K;rw[Z]at this;cases this)
 rw[B];exact⟨_,rfl,F⟩
def XB{l:bB}(K:LedgerP l)(label:Int):∃r,q7 l label=some r/\(r.2.2=0->∃k:Nat,k<=l.aQ.length/\∀a∈r.2.1,(∃e∈l.aQ,e.name=a.name)/\a.aI=nG (l.aQ.take k) a.name)/\r.2.1.length<=72/\r.1.aQ.length<=l.aQ.length:=by
 have h0:=K.le;have x0:=K.ls;have M:∀(H:Nat) (U:Nat),H<=l.aQ.length->U<=l.bI.length->∃r,Fi l ((H:Int),(U:Int))=some r/\(r.2.2=0->∃k:Nat,k<=l.aQ.length/\∀a∈r.2.1,(∃e∈l.aQ,e.name=a.name)/\a.aI=nG (l.aQ.take k) a.name)/\r.2.1.length<=72/\r.1.aQ.length<=l.aQ.length:=by
  intro H U V Z;unfold Fi;simp only[Qm];rw[gdp om,gdp (by simp only[dD];omega),gdp om,gdp (by simp only[dD];omega),gdp om];obtain⟨O,n1,n2,n3⟩:=Qp (l.aQ.drop H) (by simp only[dS];omega);rw[n1,eF];have y0:O.length<=72:=by rw[dS]at n2;omega
  have Y:=MH O (⟨#[]⟩:ByteArray) (λ n=>some (⟨n,nG (l.aQ.take H) n⟩:aO)) (body:=H9 l ((H:Int),(U:Int)) O) om (λ i s hi hs'=>by
   unfold H9;have L:0<=(i:Int)/\(i:Int)<(O.length:Int):=om
   have h5:s.length+1<=4294967296:=om
   simp only[L.1,L.2,h5,cW,mR,cG,cH,Qm,mK i (show i<4611686018427387904 by omega)];rw[BI _ _ (by simp only[dD];omega)];rfl) (λ s=>by unfold H9;simp)
  rw[Y,eF];refine⟨_,rfl,λ _=>⟨H,V,λ a hm=>?_⟩,?_,?_⟩
  .obtain⟨n,hn,e⟩:=fY.1 (show a∈O.filterMap _ from hm);cases e;obtain⟨en,he,B⟩:=(n3 n).1 hn;exact⟨⟨en,gU he,B⟩,rfl⟩
  .have:=gR (λ n=>some (⟨n,nG (l.aQ.take H) n⟩:aO)) O;show(O.filterMap _).length<=72;omega
  .show(l.aQ.take H).length<=_;rw[dD];omega
 unfold q7;obtain⟨b,h1,_⟩:=DC l;rw[h1,eF];cases b with
 |false=>exact⟨_,rfl,(λ h=>nomatch h),by simp,fS _⟩
 |true=>
 simp only[cQ,bZ,cI]
 by_cases c:label=0
 .rw[bX (by simp[c])];exact M 0 0 om om
 .rw[cA (by simp[c])];obtain⟨v,f1,F⟩:=Qq l.bI label om;rw[f1,eF];rcases F with rfl|⟨F,f3⟩
  .exact⟨_,rfl,(λ h=>nomatch h),by simp,fS _⟩
  .rw[bX (by simp;omega),gdp ⟨F,f3⟩];have Z:=K.at_ _ (mX (z:=bV.zero) (show v.toNat<l.bI.length by omega));have e1:(l.bI.getD v.toNat bV.zero).at_=(((l.bI.getD v.toNat bV.zero).at_.toNat:Nat):Int):=om
   have e2:IntKind.i64.wrap (v+1)=((v.toNat+1:Nat):Int):=by rw[mH om om];omega
   rw[e2,e1];exact M _ _ om om
def Back(x:aG)(t H:List aA)(k:Nat):Prop:=∀j,j<t.length->(nO (H.getD j aA.zero) x.aM).2=false/\
 (getH (H.getD j aA.zero).aS x.aM=nG x.bH.aQ (t.getD j aA.zero).aB.name\/getH (H.getD j aA.zero).aS x.aM=nG (x.bH.aQ.take k) (t.getD j aA.zero).aB.name)
def cNx{c:bF}(h:CenP c){i:Nat}(hi:i<c.aD.length){v:bB×List aO×Int}(hv:v.2.1.length<=72){k:Nat}(hk:k<=(c.aD.getD i aG.zero).bH.aQ.length)
  (ha:∀a∈v.2.1,(∃e∈(c.aD.getD i aG.zero).bH.aQ,e.name=a.name)/\a.aI=nG ((c.aD.getD i aG.zero).bH.aQ.take k) a.name)
  {j1:bD} (hj:(j1.c.aD.getD i aG.zero).aM=(c.aD.getD i aG.zero).aM) (f0:j1.c.aD.length=c.aD.length) {w:bD} (hK:Kept (c.aD.getD i aG.zero).aM c.aF w.c.aF) (hB:Back (c.aD.getD i aG.zero) c.aF w.c.aF k) (g0:w.ev.length<=1000):
  ∃w',mF (IG (i:Int) v j1) (0,w)=some w'/\Kept (c.aD.getD i aG.zero).aM c.aF w'.c.aF/\w'.c.aD=w.c.aD/\w'.ev.length<=w.ev.length+1440:=by
 have hp:=h.each _ (mX (z:=aG.zero) hi);obtain⟨x,h1,h2⟩:=nZ (body:=IG (i:Int) v j1) (λ z=>(∃m:Nat,z.1=m/\m<=v.2.1.length/\z.2.ev.length<=w.ev.length+20*m)/\z.2.c.aD=w.c.aD/\Kept (c.aD.getD i aG.zero).aM c.aF z.2.c.aF/\Back (c.aD.getD i aG.zero) c.aF z.2.c.aF k) (λ z=>v.2.1.length-z.1.toNat)
  (λ x=>Kept (c.aD.getD i aG.zero).aM c.aF x.c.aF/\x.c.aD=w.c.aD/\x.ev.length<=w.ev.length+1440)
  (λ z ⟨⟨m,hm,hml,he⟩,L,K,V⟩=>by
   obtain⟨z1,B⟩:=z;simp only at hm he L K V;subst hm;unfold IG
   by_cases cm:m<v.2.1.length
   .left;have h3:0<=(m:Int)/\(m:Int)<(v.2.1.length:Int):=om
    have l0:=K.v.lens'.1;simp only[h3.1,h3.2,cW,mR,cG,cH,Qm,mK m (show m<4611686018427387904 by omega)];obtain⟨⟨en,q0,r0⟩,O⟩:=ha _ (mX (z:=aO.zero) cm);have M:=cNl hp.led q0;rw[r0]at M;obtain⟨q,hq,y0,s0⟩:=hp.held _ M;obtain⟨j,U,H⟩:=Qw ⟨q,hq,y0⟩;have t0:c.aF.getD j aA.zero=q:=h.t.inj (mX U) hq (H.trans y0.symm);have h0:j<B.c.aF.length:=by rw[K.len];exact U
    have z0:=K.find h.t U;rw[H]at z0;have h6:=BJ K.v.lens h0;rw[z7 _ _ om,eF,z0,gdp om];simp only[Qm,hj];rw[xO _ _ om,eF];split
    .rename_i c0;have u0:¬getH (B.c.aF.getD j aA.zero).aS (c.aD.getD i aG.zero).aM=(v.2.1.getD m aO.zero).aI:=by simpa [-List.getD_eq_getElem?_getD]using c0
     have p0:=V j U;have F:=K.res j U;have Y:getH (B.c.aF.getD j aA.zero).aS (c.aD.getD i aG.zero).aM=nG (c.aD.getD i aG.zero).bH.aQ (v.2.1.getD m aO.zero).name:=by
      rcases p0.2 with e|e
      .rw[e,H]
      .rw[H,<-O]at e;exact absurd e u0
     have d0:covA (B.c.aF.getD j aA.zero).aB (getH (B.c.aF.getD j aA.zero).aS (c.aD.getD i aG.zero).aM) (v.2.1.getD m aO.zero).aI=true:=by rw[Y,O,F,t0];exact XA hp.led s0 ((c.aD.getD i aG.zero).bH.aQ.length-k) k om
     obtain⟨Z,ev,r1,r2,r3,r4,r5,r6⟩:=Xp K.v h0 (p:=(c.aD.getD i aG.zero).aM) (a:=(v.2.1.getD m aO.zero).aI) (by rw[Y];exact M) p0.1 d0;have x0:(⟨(B.c.aF.getD j aA.zero).aB.name,(v.2.1.getD m aO.zero).aI⟩:aO)=v.2.1.getD m aO.zero:=by rw[F,H]
     rw[x0]at r1;rw[Qk,eF,r1,DE _ _ _ (by simp only;omega),eF];refine⟨_,rfl,⟨⟨m+1,rfl,cm,by simp only[cC];omega⟩,L,K.trans r3,λ j2 e0=>?_⟩,by simp only[Qm];omega⟩
     by_cases e:j=j2
     .subst e;show(nO ((B.c.aF.set j Z).getD j aA.zero) _).2=false/\_;rw[sH _ _ _ _ h0];exact⟨r5,.inr (by rw[r4,O,H])⟩
     .show(nO ((B.c.aF.set j Z).getD j2 aA.zero) _).2=false/\(getH ((B.c.aF.set j Z).getD j2 aA.zero).aS _=_\/getH ((B.c.aF.set j Z).getD j2 aA.zero).aS _=_);rw[MI _ _ _ _ _ e];exact V j2 e0
    .exact⟨_,rfl,⟨⟨m+1,rfl,cm,by simp only;omega⟩,L,K,V⟩,by simp only[Qm];omega⟩
   .right;simp only[show¬(m:Int)<(v.2.1.length:Int)by omega,cO,bZ,cI];exact⟨_,rfl,K,L,by omega⟩) (0,w) ⟨⟨0,rfl,by omega,by simp⟩,rfl,hK,hB⟩
 exact⟨x,h1,h2⟩
def cNy{i:Nat}{c:bF}(h:CenP c)(hi:i<c.aD.length)(label:Int):∃x,FS (i:Int) label ⟨c,[]⟩=some x/\x.2.c.aD.length<=100:=by
 have g:=h.good [];have Z:=h.each _ (mX (z:=aG.zero) hi);have h3:0<=(i:Int)/\(i:Int)<((c.aD.length:Nat):Int):=om
 unfold FS;show∃x,gd (0<=(i:Int)/\(i:Int)<((c.aD.length:Nat):Int)) ((q7 (c.aD.getD (i:Int).toNat aG.zero).bH label).bind _)=some x/\_;rw[gdp h3];simp only[Qm];obtain⟨v,u1,u2,u3,_⟩:=XB Z.led label;rw[u1,eF]
 by_cases c0:v.2.2=0
 .rw[bX (by simp[c0]),gdp h3];obtain⟨k,hk,h0⟩:=u2 c0;have O:∀(j1:bD),j1.c.aD.length=c.aD.length->(j1.c.aD.getD i aG.zero).aM=(c.aD.getD i aG.zero).aM->(j1.c.aD.getD i aG.zero).bJ=false->j1.ev.length<=320->Kept (c.aD.getD i aG.zero).aM c.aF j1.c.aF->Back (c.aD.getD i aG.zero) c.aF j1.c.aF k->
    (∀H (y:aG) (ev:List bN),Kept (c.aD.getD i aG.zero).aM c.aF H->y.aM=(c.aD.getD i aG.zero).aM->y.bJ=false->Good ⟨⟨j1.c.now,H,j1.c.aD.set i y⟩,ev⟩)->∃x,FR (i:Int) v j1=some x/\x.2.c.aD.length<=100:=by
   intro j1 x0 K hw1 p0 hK hB hG;unfold FR;have V:i<j1.c.aD.length:=om
   rw[gdp om,gdp om];simp only[Qm];obtain⟨w',l1,l2,l3,l4⟩:=cNx h hi u3 hk h0 K x0 (w:=⟨⟨j1.c.now,j1.c.aF,j1.c.aD.set i {j1.c.aD.getD i aG.zero with bH:=v.1}⟩,j1.ev⟩) hK hB (by simp only;omega);rw[l1,eF];unfold LR;have y0:i<w'.c.aD.length:=by rw[l3,dV];exact V
   rw[Gu y0,eF];obtain⟨w2,s1,s9⟩:=Qy (w:=⟨⟨w'.c.now,w'.c.aF,w'.c.aD.set i {w'.c.aD.getD i aG.zero with gen:=pC (w'.c.aD.getD i aG.zero).gen}⟩,w'.ev⟩) (.inl (by
    have e:w'.c.aD.set i {w'.c.aD.getD i aG.zero with gen:=pC (w'.c.aD.getD i aG.zero).gen}=j1.c.aD.set i {{j1.c.aD.getD i aG.zero with bH:=v.1}with gen:=pC (j1.c.aD.getD i aG.zero).gen}:=by rw[l3];simp only[sH _ _ _ _ V,gS]
    rw[e];have gg:=hG w'.c.aF {{j1.c.aD.getD i aG.zero with bH:=v.1}with gen:=pC (j1.c.aD.getD i aG.zero).gen} w'.ev l2 K hw1;refine⟨⟨gg.v,gg.len,gg.nd,gg.ok⟩,dG (Gv gg.len) ?_⟩;simp only at l4⊢;omega))
   rw[s1];exact⟨_,rfl,s9⟩
  show∃x,(if(c.aD.getD i aG.zero).bJ=true then _ else _)=some x/\_;rcases hb (c.aD.getD i aG.zero).bJ with hw|hw
  case inr=>rw[bX (by rw[hw];decide)];refine O ⟨c,[]⟩ rfl rfl hw (by simp) (Gt h.t) (λ j F=>?_) (λ H y ev k1 k2 k3=>g.upd (w:=⟨c,[]⟩) hi k1 k2 (λ U=>by rw[k3]at U;cases U) _ _);have:=Z.run hw _ (mX (z:=aA.zero) (show j<c.aF.length from F));exact⟨this.2,.inl this.1⟩
  case inl=>
   rw[cA hw];obtain⟨H,ev,L,w1,w2,w3,w4,w5⟩:=Xt (w:=⟨c,[]⟩) g hi hw (dG (Gv g.len) (by simp));rw[w1,eF];have Y:(c.aD.set i (pD (c.aD.getD i aG.zero))).getD i aG.zero=pD (c.aD.getD i aG.zero):=sH _ _ _ _ hi;refine O _ (by simp) (by show((c.aD.set i _).getD i aG.zero).aM=_;rw[Y];rfl) (by show((c.aD.set i _).getD i aG.zero).bJ=false;rw[Y];rfl) (by simp only[jm];exact w2) w3 (λ j F=>?_) (λ t2 y B k1 k2 k3=>?_)
   .rcases w5 j F with M|⟨M,h6⟩
    .exact⟨M.2,.inl M.1⟩
    .obtain⟨_,z0⟩:=Z.wait hw;have u0:=(z0 L true w4).2 _ (mX (z:=aA.zero) (show j<c.aF.length from F));rcases u0 with⟨a,ha,hn,_⟩|⟨h7,h8⟩
     .exact absurd hn (h6 a ha)
     .show(nO (H.getD j aA.zero) _).2=false/\(getH (H.getD j aA.zero).aS _=_\/_);rw[show H.getD j aA.zero=c.aF.getD j aA.zero from M];exact⟨h8,.inl h7⟩
   .have:=g.upd (w:=⟨c,[]⟩) hi k1 k2 (λ U=>by rw[k3]at U;cases U) c.now B;show Good ⟨⟨c.now,t2,(c.aD.set i _).set i y⟩,B⟩;rw[gS];exact this
 .rw[cA (by simp[c0])];exact⟨_,rfl,dG h.len Om⟩
def cNz(l:bB)(n:Int)(K:l.bI.length<=1000)(U:l.aQ.length<=1000):∃r,E7 l n=some r:=by
 unfold E7;obtain⟨b,H,_⟩:=DC l;rw[H,eF];split
 .exact⟨_,rfl⟩
 split
 .exact⟨_,rfl⟩
 obtain⟨v,O,_⟩:=Qq l.bI n om;rw[O,eF];split
 .exact⟨_,rfl⟩
 split
 .exact⟨_,rfl⟩
 rw[gdp om,gdp om,gdp om];exact⟨_,rfl⟩
def cO0{c:bF}(h:CenP c)(k:bQ):∃x,FU k ⟨c,[]⟩=some x/\x.2.c.aD.length<=100:=by
 have g:=h.good [];have H:bud ⟨c,[]⟩<=400000:=dG (Gv g.len) (by simp);have O:∀{o:Option (Int×bD)},(∃x,o=some x/\x.2.c.aD.length<=100)->∃x:Int×bD,(o.bind λ v=>some (v.1,v.2))=some x/\x.2.c.aD.length<=100:=λ{o} ⟨x,L,V⟩=>⟨x,by rw[L];rfl,V⟩;have B:∀{o:Option bD},(∃x,o=some x/\x.c.aD.length<=100)->∃x:Int×bD,(o.bind λ v=>some (0,v))=some x/\x.2.c.aD.length<=100:=λ{o} ⟨x,L,V⟩=>⟨(0,x),by rw[L];rfl,V⟩;unfold FU
 by_cases F:((decide (k.kind<1))||(decide (9<k.kind)))=true
 .rw[cA F];exact⟨_,rfl,dG h.len Om⟩
 rw[bX F]
 by_cases M:k.kind=1
 .rw[cA (cP M)];exact O (cNa _ _ g.len)
 rw[bX (by simpa using M)]
 by_cases Z:k.kind=9
 .rw[cA (cP Z)];exact O (cN9 _ g H)
 rw[bX (by simpa using Z)];obtain⟨v,i1,i2⟩:=Qt c.aD k.aM (by have:=h.len;omega);show∃x,(yN c.aD k.aM).bind _=some x/\_;rw[i1,eF];rcases i2 with⟨rfl,_⟩|⟨i,rfl,K,_⟩
 .exact⟨_,rfl,dG h.len Om⟩
 have hp:=h.each _ (mX (z:=aG.zero) K);have U:0<=(i:Int)/\(i:Int)<((c.aD.length:Nat):Int):=om
 rw[bX (by simp)];show∃x,gd (0<=(i:Int)/\(i:Int)<((c.aD.length:Nat):Int)) _=some x/\_;rw[gdp U];simp only[Qm]
 by_cases k2:k.kind=2
 .rw[cA (cP k2)];exact O (cNt h K _)
 rw[bX (by simpa using k2)]
 by_cases k3:k.kind=3
 .rw[cA (cP k3)];rcases hb (c.aD.getD i aG.zero).bJ with hw|hw
  case inr=>rw[cA (by show(!(c.aD.getD i aG.zero).bJ)=true;rw[hw];rfl)];exact⟨_,rfl,dG h.len Om⟩
  case inl=>rw[bX (by show¬(!(c.aD.getD i aG.zero).bJ)=true;rw[hw];decide)];obtain⟨w1,w2,r1,r2,r3,_,_,r6⟩:=Xv (w:=⟨c,[]⟩) g K hw om;rw[r1,eF,r2,eF];obtain⟨w3,Y,s9⟩:=MK r3 om;show∃x,(sN w2).bind _=some x/\_;rw[Y];exact⟨_,rfl,dG s9.good.len Om⟩
 rw[bX (by simpa using k3)]
 by_cases k4:k.kind=4
 .rw[cA (cP k4)];exact O (cNv h K _)
 rw[bX (by simpa using k4)]
 by_cases k5:k.kind=5
 .rw[cA (cP k5)];rcases hb (c.aD.getD i aG.zero).bJ with hw|hw
  case inl=>rw[cA (by exact hw)];exact⟨_,rfl,dG h.len Om⟩
  case inr=>
   rw[bX (by show¬(c.aD.getD i aG.zero).bJ=true;rw[hw];decide),gdp U];obtain⟨r,Y⟩:=cNz (c.aD.getD i aG.zero).bH k.n (by have:=hp.led.ls;omega) (by have:=hp.led.le;omega);rw[Y,eF];split
   .exact⟨_,rfl,dG h.len Om⟩
   .rw[gdp U];have hn:=λ(y:aG)=>Gu (i:=i) (w:=⟨⟨c.now,c.aF,c.aD.set i y⟩,[]⟩) (by show i<(c.aD.set i y).length;rw[dV];exact K);rw[hn];exact⟨_,rfl,by simp only[dV];exact dG h.len Om⟩
 rw[bX (by simpa using k5)]
 by_cases k6:k.kind=6
 .rw[cA (cP k6)];exact O (cNy h K _)
 rw[bX (by simpa using k6)]
 by_cases k8:k.kind=8
 .rw[cA (cP k8)];rcases hb (c.aD.getD i aG.zero).bJ with hw|hw
  case inl=>rw[cA (by exact hw)];exact⟨_,rfl,dG h.len Om⟩
  case inr=>rw[bX (by show¬(c.aD.getD i aG.zero).bJ=true;rw[hw];decide)];exact B (Xw g K H)
 rw[bX (by simpa using k8)]
 by_cases k7:k.kind=7
 .rw[cA (cP k7)];exact B (Xw g K H)
 .rw[bX (by simpa using k7)];exact⟨_,rfl,dG h.len Om⟩
def cO1(c:bF)(k:bQ):∃x,FV c k=some x/\x.1.aD.length<=100:=by
 unfold FV;obtain⟨b,H,O⟩:=Xn c;rw[H,eF];cases b with
 |false=>exact⟨_,rfl,by simp[bF.zero]⟩
 |true=>
  have h:=O rfl;rw[bX Om];unfold Hd;rw[gdp (by have:=h.t.len;omega),gdp (by have:=h.len;omega),eF];obtain⟨x,e,U⟩:=cO0 h k;show∃x,(FU k ⟨c,[]⟩).bind _=some x/\_;rw[e,eF];split
  .exact⟨_,rfl,by simp[bF.zero]⟩
  .exact⟨_,rfl,U⟩
def cO2(c:bF)(l:List bQ)(V:l.length<=100000)(O:c.aD.length<=100):∃x,FW c l=some x/\x.aD.length<=100:=by
 unfold FW;obtain⟨x,U,Y⟩:=nZ (body:=LT l) (λ g=>∃k:Nat,g.1=k/\k<=l.length/\g.2.aD.length<=100) (λ g=>l.length-g.1.toNat) (λ x=>x.aD.length<=100)
  (λ g ⟨k,K,L,hg⟩=>by
   obtain⟨F,y⟩:=g;simp only at K hg;subst K;unfold LT
   by_cases c:k<l.length
   .left;have H:0<=(k:Int)/\(k:Int)<(l.length:Int):=om
    obtain⟨x,e,B⟩:=cO1 y (l.getD k bQ.zero);simp only[H.1,H.2,cW,mR,cG,cH,Qm,mK k (show k<4611686018427387904 by omega),e,qm];split
    .exact⟨_,rfl,⟨k+1,rfl,c,B⟩,by simp only[Qm];omega⟩
    .exact⟨_,rfl,⟨k+1,rfl,c,hg⟩,by simp only[Qm];omega⟩
   .right;simp only[show¬(k:Int)<(l.length:Int)by omega,cO,bZ,cI];exact⟨_,rfl,hg⟩) (0,c) ⟨0,rfl,by omega,O⟩
 rw[U];exact⟨_,rfl,Y⟩
structure Adv (u u':bM):Prop where
 ok:TapeOk u'
 l:u'.l=u.l
 at_:u.at_<=u'.at_
def Adv.trans{a b c:bM}(h:Adv a b)(k:Adv b c):Adv a c:=⟨k.ok,k.l.trans h.l,Int.le_trans h.at_ k.at_⟩
def Adv.refl{a:bM}(h:TapeOk a):Adv a a:=⟨h,rfl,gV _⟩
def ML{u:bM}(h:TapeOk u):Adv u (oR u):=⟨y9 h,Wm u,by
 unfold oR;split
 .exact gV _
 .show u.at_<=u.at_+1;omega⟩
def rA{m:Int}(H:1<=m)(U:m<=1000000){u:bM}(h:TapeOk u):∃v O,nY m u=some (v,O)/\Adv u O/\0<=v/\v<m:=by have:=I4 m u H;exact⟨_,_,Dp m u h H U,ML h,this.1,this.2⟩
def cO4{m:Int}(Y:1<=m)(B:m<=1048576){u:bM}(h:TapeOk u):∃v H,nY m u=some (v,H)/\Adv u H:=by
 unfold nY;have K:=h.len;have V:=h.at_
 by_cases c:(u.l.length:Int)<=u.at_
 .rw[cA (by simpa using c)];exact⟨_,_,rfl,Adv.refl h⟩
 .rw[bX (by simpa using c)];have O:IntKind.i64.wrap (u.at_+1)=u.at_+1:=mH om om;have U:IntKind.i64.wrap (u.at_+1-1)=u.at_:=by rw[mH om om];omega
  simp only[O,U];rw[gdp om];have hm:∃v,vR (u.l.getD u.at_.toNat 0) m=some v:=by unfold vR;rw[bX (by simp;omega),gdp om];split<;>exact⟨_,rfl⟩
  obtain⟨v,L⟩:=hm;rw[L];exact⟨_,_,rfl,⟨K,by simp only;omega⟩,rfl,by simp only;omega⟩
def XC(H:List aO)(ha:1<=H.length)(hb:H.length<=1000):∀(n:Nat) (d:Int),0<=d->d.toNat<n->d<=10->∀u,TapeOk u->∃e Y,CA n H d u=some (e,Y)/\Adv u Y
 |0,_,_,h,_,_,_=>om
 |n+1,d,h0,hd,h10,u,L=>by
  show∃e Y,HC (CA n) H d u=some (e,Y)/\_;unfold HC;have first:∃v U,(if(!decide (d=0))=true then nY 4 u else some (0,u))=some (v,U)/\Adv u U:=by
   split
   .obtain⟨v,U,h1,h2,_⟩:=rA (m:=4) Om Om L;exact⟨v,U,h1,h2⟩
   .exact⟨0,u,rfl,Adv.refl L⟩
  obtain⟨v,U,e1,B⟩:=first
  rw[e1,eF]
  by_cases c:((decide (d=0))||(decide (v=0)))=true
  .rw[cA c];obtain⟨v2,u2,e2,a2,F,M⟩:=rA (m:=(H.length:Int)) om om B.ok;rw[e2,eF,gdp ⟨F,M⟩];exact⟨_,_,rfl,B.trans a2⟩
  .rw[bX c];have x0:1<=d:=by
    simp only[dU,cB,lK]at c;omega
   obtain⟨v3,u3,e3,V,F,M⟩:=rA (m:=3) Om Om B.ok;rw[e3,eF];have Z:IntKind.i64.wrap (1+v3)=1+v3:=mH om om;simp only[Z];obtain⟨v4,u4,e4,a4,r3,r4⟩:=rA (m:=1+v3) om om V.ok;rw[e4,eF];have O:=(B.trans V).trans a4;obtain⟨x,l1,l2⟩:=nZ (body:=KX (CA n) H d (v3,u3)) (λ g=>∃k:Nat,g.1=k/\k<=4/\Adv u g.2.1/\g.2.2.bG.length<=k) (λ g=>4-g.1.toNat) (λ x=>Adv u x.1)
    (λ g ⟨k,hk,hk4,O,K⟩=>by
     obtain⟨g1,t,e⟩:=g;simp only at hk O K;subst hk;unfold KX;simp only[Z]
     by_cases ck:(k:Int)<1+v3
     .left;rw[cA (by simpa using ck)];have wd:IntKind.i64.wrap (d-1)=d-1:=mH om om;obtain⟨e5,u5,e6,a6⟩:=XC H ha hb n (d-1) om om om t O.ok;rw[wd,e6,eF,gdp om,mK k om];exact⟨_,rfl,⟨k+1,rfl,by omega,O.trans a6,by simp only[cC,Km];omega⟩,by simp only[Qm];omega⟩
     .right;rw[bX (by simpa using ck)];exact⟨_,rfl,O⟩) (0,u4,(⟨(IntKind.i64.wrap (1+v4)),(⟨aO.zero.name,(⟨aO.zero.aI.mode,aO.zero.aI.aU⟩:aC)⟩:aO),[]⟩:aR)) ⟨0,rfl,by omega,O,by simp⟩
   rw[l1,eF];exact⟨_,_,rfl,l2⟩
def cO6(l:List aJ)(hl:1<=l.length)(B:l.length<=10)(F:∀r∈l,oI r=true){u:bM}(M:TapeOk u):∃e H,CI l u=some (e,H)/\Adv u H:=by
 unfold CI;obtain⟨v1,O,L,U⟩:=cO4 (m:=1048576) Om Om M;rw[L,eF];obtain⟨x,V,l2⟩:=nZ (body:=K7 l (v1,O)) (λ g=>∃k:Nat,g.1=k/\k<=l.length/\g.2.length=k) (λ g=>l.length-g.1.toNat) (λ x=>x.length=l.length)
  (λ g ⟨k,K,Z,hg⟩=>by
   obtain⟨g1,s⟩:=g;simp only at K hg;subst K;unfold K7
   by_cases c:k<l.length
   .left;have Y:0<=(k:Int)/\(k:Int)<(l.length:Int):=om
    have w1:IntKind.i64.wrap (3*(k:Int))=3*(k:Int):=mH om om;have w2:0<=IntKind.u64.wrap (3*(k:Int)):=by unfold IntKind.wrap;simp only[IntKind.signed,eY,bZ,cI];exact iY _ Om
    simp only[Y.1,Y.2,cW,mR,cG,cH,Qm,mK k (show k<4611686018427387904 by omega),w1];rw[gdp w2,PN _ _ (F _ (mX c)),eF,gdp om];exact⟨_,rfl,⟨k+1,rfl,c,by simp only[cC,Km];omega⟩,by simp only[Qm];omega⟩
   .right;simp only[show¬(k:Int)<(l.length:Int)by omega,cO,bZ,cI];exact⟨_,rfl,by omega⟩) (0,[]) ⟨0,rfl,by omega,rfl⟩
 rw[V,eF];unfold OA KY;obtain⟨e,u2,e2,a2⟩:=XC x om om ((2:Int).toNat+1) 2 Om Om Om O U.ok;rw[e2];exact⟨_,_,rfl,U.trans a2⟩
def cO7(l:List aJ)(L:1<=l.length)(O:l.length<=10)(V:∀r∈l,oI r=true){u:bM}(Z:TapeOk u):∃e H,CN l u=some (e,H)/\Adv u H:=by
 unfold CN;obtain⟨v1,u1,e1,U,_⟩:=rA (m:=8) Om Om Z;obtain⟨v2,u2,e2,Y,_⟩:=rA (m:=5) Om Om U.ok;rw[e1,eF,e2,eF];have M:∀(t:bM) (r:bP),Adv u t->∃e H,E3 l (t,r)=some (e,H)/\Adv u H:=λ t r K=>by unfold E3;obtain⟨e,u3,B,F⟩:=cO6 l L O V K.ok;rw[B];exact⟨_,_,rfl,K.trans F⟩
 split
 .obtain⟨v3,u3,B,F,_⟩:=rA (m:=20) Om Om Y.ok;rw[B,eF];exact M _ _ ((U.trans Y).trans F)
 .exact M _ _ (U.trans Y)
def cO8(l:List aJ)(K:1<=l.length)(B:l.length<=10)(L:∀r∈l,oI r=true){u:bM}(F:TapeOk u):∃e M,Fo l u=some (e,M)/\Adv (oR u) M:=by
 unfold Fo;rw[Dp 16 u F Om Om,eF];have V:=ML F;obtain⟨v2,u2,Z,Y,_⟩:=rA (m:=6) Om Om V.ok;rw[Z,eF,PM,eF];have nx:∀(m:Int),1<=m->m<=1000000->∃v U,nY m u2=some (v,U)/\Adv (oR u) U/\0<=v/\v<m:=λ m h1 h2=>by obtain⟨v,U,H,O,r⟩:=rA h1 h2 Y.ok;exact⟨v,U,H,Y.trans O,r⟩
 split
 .obtain⟨v,U,H,O,_⟩:=nx 9 Om Om;rw[H];exact⟨_,_,rfl,O⟩
 split
 .obtain⟨e,U,H,O⟩:=cO7 l K B L Y.ok;rw[H];exact⟨_,_,rfl,Y.trans O⟩
 split
 .exact⟨_,_,rfl,Y⟩
 split
 .obtain⟨v,U,H,O,r1,r2⟩:=nx (l.length:Int) om om;rw[H,eF,gdp ⟨r1,r2⟩];exact⟨_,_,rfl,O⟩
 split
 .obtain⟨v,U,H,O,_⟩:=nx 4 Om Om;rw[H];exact⟨_,_,rfl,O⟩
 split
 .obtain⟨v,U,H,O,_⟩:=nx 5 Om Om;rw[H];exact⟨_,_,rfl,O⟩
 split
 .exact⟨_,_,rfl,Y⟩
 split
 .exact⟨_,_,rfl,Y⟩
 .obtain⟨v,U,H,O,_⟩:=nx 12 Om Om;rw[H];exact⟨_,_,rfl,O⟩
def XD:∀(n:Nat) {u:bM},TapeOk u->Adv u (vD n u)
 |0,u,h=>Adv.refl h
 |n+1,u,h=>by have:=XD n (y9 h);exact(ML h).trans this
def XE{l:List Int}(hl:l.length<=300):∃r k,r9 l=some (r,k)/\k.length<=1000/\r.length=6/\∀x∈r,oI x=true:=by
 unfold r9;have B:TapeOk {bM.zero with l:=l}:=⟨by simp only;omega,by show 0<=(0:Int)/\(0:Int)<=l.length;omega⟩;rw[cE2 _ B,eF];have H:=XD 8 B;have O:=cE3 {bM.zero with l:=l};obtain⟨x,F,K⟩:=nZ (body:=Lp) (λ g=>∃k:Nat,g.1=k/\k<=4/\Adv {bM.zero with l:=l} g.2.1/\g.2.2.length<=k) (λ g=>4-g.1.toNat) (λ x=>Adv {bM.zero with l:=l} x.1/\x.2.length<=4)
  (λ g ⟨k,V,Z,H,L⟩=>by
   obtain⟨g1,t,s⟩:=g;simp only at V H L;subst V;unfold Lp
   by_cases ck:k<4
   .left;rw[cA (by simp;omega),PM,eF];obtain⟨v,u,e,a,_⟩:=rA (m:=9) Om Om H.ok;simp only[e,qm];rw[gdp om,mK k om];exact⟨_,rfl,⟨k+1,rfl,by omega,H.trans a,by simp only[cC,Km];omega⟩,by simp only[Qm];omega⟩
   .right;rw[bX (by simp;omega)];exact⟨_,rfl,H,by simp only;omega⟩) (0,vD 8 {bM.zero with l:=l},[]) ⟨0,rfl,by omega,H,by simp⟩
 rw[F,eF];unfold Lo;obtain⟨M,s0⟩:=x;simp only at K;obtain⟨y,m1,m2⟩:=nZ (body:=Ln (catL {bM.zero with l:=l},vD 8 {bM.zero with l:=l})) (λ g=>Adv {bM.zero with l:=l} g.1/\(g.2.length:Int)<=4+g.1.at_) (λ g=>l.length-g.1.at_.toNat) (λ y=>y.length<=1000)
  (λ g ⟨H,hg⟩=>by
   obtain⟨t,s⟩:=g;simp only at H hg;have Y:t.l.length=l.length:=by rw[H.l]
   have x0:=H.ok.at_;unfold Ln Ha;rw[eF]
   by_cases c:t.at_<(t.l.length:Int)
   .left;rw[cA (by simpa using c)];obtain⟨e,u,e1,U⟩:=cO8 (catL {bM.zero with l:=l}) (by unfold catL;simp) (by unfold catL;simp) O H.ok;simp only[e1,qm];rw[gdp om];have hn:(oR t).at_=t.at_+1:=by unfold oR;rw[bX om]
    have:=U.at_;rw[hn]at this;have hul:=U.ok.at_;have:u.l.length=l.length:=by rw[U.l,Wm,Y]
    exact⟨_,rfl,⟨(H.trans (ML H.ok)).trans U,by simp only[cC,Km];omega⟩,by simp only;omega⟩
   .right;rw[bX (by simpa using c)];exact⟨_,rfl,by simp only;omega⟩) (M,s0) ⟨K.1,by have:=K.2;have:=K.1.ok.at_;simp only;omega⟩
 rw[m1,eF];exact⟨_,_,rfl,m2,by unfold catL;simp,O⟩
def XF{l:List Int}(K:l.length<=300):∃c,FX l=some c/\c.aD.length<=100:=by
 unfold FX;obtain⟨r,k,H,M,_,_⟩:=XE K;rw[H,eF];have O:∃v,Ia r=some v/\v.1.aD=[]:=by unfold Ia;rw[cKe,eF];split<;>exact⟨_,rfl,rfl⟩
 obtain⟨v,U,Y⟩:=O;simp only[U,qm];obtain⟨c,B,F⟩:=cO2 v.1 k om (by rw[Y];simp);rw[B];exact⟨_,rfl,F⟩
def rB(x:aG):Option bR:=if x.bJ=true then some ⟨x.aM,x.bK.bU,x.gen⟩else none
def Qz{x:aG}{n:bR}(h:rB x=some n):x.bJ=true/\n=⟨x.aM,x.bK.bU,x.gen⟩:=by
 unfold rB at h;split at h
 .rename_i c;cases h;exact⟨c,rfl⟩
 .cases h
def cOe{p q:aK}(h:ltP p q):cmpP p q<0:=by rw[LX,cA h];decide
def XG:nX aH.zero=true:=by decide
def cOg{c:bF}(h:CenP c):nX ⟨c.aF,c.aD.filterMap rB⟩=true:=by
 have B:=gR rB c.aD;have hl:=h.len;have K:∀n∈c.aD.filterMap rB,∃x∈c.aD,x.bJ=true/\n=⟨x.aM,x.bK.bU,x.gen⟩:=λ n H=>by obtain⟨x,L,e⟩:=fY.1 H;exact⟨x,L,Qz e⟩
 have U:(c.aD.filterMap rB).Pairwise λ a b=>ltP a.aM b.aM:=by rw[List.pairwise_filterMap];refine h.asc.imp λ{a b} Z n H m hm=>?_;rw[(Qz H).2,(Qz hm).2];exact Z
 unfold nX;simp only[bY,cB];refine⟨⟨⟨(vF _).2 ⟨h.t.len,h.t.each,h.t.asc⟩,by omega⟩,?_⟩,?_⟩
 .unfold Ac;rw[dT];intro i V;rw[eH]at V;have gg:∀k,(Y:k<(c.aD.filterMap rB).length)->(c.aD.filterMap rB).getD k bR.zero=(c.aD.filterMap rB)[k]:=λ k Y=>by rw[cD,cF Y];rfl
  obtain⟨x,L,hw,e⟩:=K _ (mX (z:=bR.zero) V);have hp:=h.each x L;unfold Gi;have O:(decide (i=0)||decide (cmpP ((c.aD.filterMap rB).getD (i-1) bR.zero).aM ((c.aD.filterMap rB).getD i bR.zero).aM<0))=true:=by
   by_cases F:i=0
   .simp[F]
   .have:=eZ.1 U (i-1) i om V om;rw[gg _ om,gg _ V,cP (cOe this),jS]
  rw[O,e];simp only[hp.pv,(hp.wait hw).1,cL,fG,cB,bY];exact hp.gen
 .unfold pR;refine dG (eT (IZ (IY _)) (l₂:=c.aD.map (·.aM)) λ p hp=>?_) (by simpa using hl);rw[Gf,cX]at hp;rcases hp with hp|hp
  .obtain⟨x,L,e⟩:=h.aD p hp;exact cR.2 ⟨x,L,e⟩
  .obtain⟨n,H,e⟩:=cR.1 hp;obtain⟨x,L,_,M⟩:=K n H;exact cR.2 ⟨x,L,by rw[<-e,M]⟩
def QA(c:bF):∃s,w6 c=some s/\nX s=true:=by
 unfold w6;obtain⟨b,B,F⟩:=Xn c;rw[B,eF];cases b with
 |false=>exact⟨_,rfl,XG⟩
 |true=>
 have h:=F rfl;have hl:=h.len;have M:=h.t.len;rw[bX Om,gdp om];obtain⟨x,L,V⟩:=nZ (body:=LN c) (λ g=>∃k:Nat,g.1=k/\k<=c.aD.length/\g.2=⟨c.aF,(c.aD.take k).filterMap rB⟩) (λ g=>c.aD.length-g.1.toNat) (λ x=>x=⟨c.aF,c.aD.filterMap rB⟩)
  (λ g ⟨k,K,Z,hg⟩=>by
   obtain⟨g1,s⟩:=g;simp only at K hg;subst K;subst hg;unfold LN
   by_cases H:k<c.aD.length
   .left;have U:0<=(k:Int)/\(k:Int)<(c.aD.length:Int):=om
    have O:=gR rB (c.aD.take k);rw[dD]at O;simp only[U.1,U.2,cW,mR,cG,cH,Qm,mK k (show k<4611686018427387904 by omega)];have Y:∀x:aG,(c.aD.take k++[x]).filterMap rB=(c.aD.take k).filterMap rB++(match rB x with|some n=>[n]|none=>[]):=λ x=>by rw[List.filterMap_append];simp only[List.filterMap_cons,List.filterMap_nil];cases rB x<;>rfl
    rcases hb (c.aD.getD k aG.zero).bJ with hw|hw
    .rw[cA hw,gdp om];refine⟨_,rfl,⟨k+1,rfl,H,?_⟩,by simp only[Qm];omega⟩;rw[vJ aG.zero H,Y];unfold rB;rw[cA hw]
    .rw[bX (by rw[hw];decide)];refine⟨_,rfl,⟨k+1,rfl,H,?_⟩,by simp only[Qm];omega⟩;rw[vJ aG.zero H,Y];have:rB (c.aD.getD k aG.zero)=none:=by unfold rB;rw[bX (by rw[hw];decide)]
     rw[this,dY]
   .right;have e:k=c.aD.length:=om
    simp only[show¬(k:Int)<(c.aD.length:Int)by omega,cO,bZ,cI];exact⟨_,rfl,by rw[e,eU]⟩) (0,⟨c.aF,[]⟩) ⟨0,rfl,by omega,rfl⟩
 rw[L,eF];exact⟨x,rfl,by rw[V];exact cOg h⟩
def cOi{l:List Int}(K:l.length<=300):∃s,IJ l=some s/\nX s=true:=by unfold IJ;obtain⟨c,H,_⟩:=XF K;rw[H,eF];obtain⟨s,O,U⟩:=QA c;rw[O];exact⟨s,rfl,U⟩
def XH:∀{x y:List UInt8},x≠y->Op.bytesLess x y=true\/Op.bytesLess y x=true
 |[],[],h=>absurd rfl h
 |[],b::y,_=>.inl rfl
 |a::x,[],_=>.inr rfl
 |a::x,b::y,h=>by
  simp only[Op.bytesLess,dU,cB,bY,dL]
  by_cases e:a=b
  .subst e;rcases XH (x:=x) (y:=y) (λ k=>h (by rw[k]))with k|k
   .exact .inl (.inr ⟨rfl,k⟩)
   .exact .inr (.inr ⟨rfl,k⟩)
  .rcases kJ a.toNat b.toNat with k|k
   .exact .inl (.inl (UInt8.lt_iff_toNat_lt.2 k))
   .refine .inr (.inl (UInt8.lt_iff_toNat_lt.2 ?_));have:a.toNat≠b.toNat:=λ k=>e (kF.1 k);omega
def cOk{α X:Type}(l:List α)(z:α)(p:α->Bool)(f:α->X){body:Int->Option (Int⊕(Unit⊕X))}
  (hb:∀i:Nat,i<l.length->body (i:Int)=some (if p (l.getD i z)=true then .inr (.inr (f (l.getD i z)))else .inl ((i+1:Nat):Int)))
  (B:body (l.length:Int)=some (.inr (.inl ()))):mF body 0=some (match l.find? p with|some a=>.inr (f a)|none=>.inl ()):=by
 have O:=xL (body:=body) l z (λ i (_:Unit)=>(i:Int)) (λ i a _=>some (if p a=true then .inr (Sum.inr (α:=Unit) (f a))else .inl ())) (λ _=>Sum.inl (β:=X) ())
  (λ i s K=>by rw[hb i K,lS];split<;>rfl) (λ s=>B) ()
 have H:∀(l:List α) (i:Nat),walk (λ i a (_:Unit)=>some (if p a=true then .inr (Sum.inr (α:=Unit) (f a))else .inl ())) (λ _=>Sum.inl (β:=X) ()) l i ()=some (match l.find? p with|some a=>.inr (f a)|none=>.inl ()):=by
  intro l;induction l with
  |nil=>intro i;rfl
  |cons a l F=>
   intro i;simp only[walk,List.find?_cons]
   by_cases Y:p a=true
   .simp[Y]
   .have U:p a=false:=by simpa using Y
    simp only[U,bZ,cI];rw[F (i+1)]
 rw[show(0:Int)=(λ(i:Nat) (_:Unit)=>(i:Int)) 0 ()from rfl,O];exact H l 0
def xV{body:Int->Option (Int⊕(Unit⊕Bool))}(n:Nat)(p:Nat->Bool)(hb:∀i:Nat,i<n->body (i:Int)=some (if p i=true then .inl ((i:Int)+1)else .inr (.inr false)))
  (O:body (n:Int)=some (.inr (.inl ()))):mF body 0=some (if(List.range n).all p=true then .inl ()else .inr false):=by
 have H:mF body 0=some ((qG (λ i=>if p i=true then none else some (Sum.inr (α:=Unit) false)) n 0).getD (Sum.inl ())):=
  uB n _ (Sum.inl ()) (λ i K=>by rw[hb i K];cases p i<;>rfl) O
 rw[H,vC,<-eX];cases(List.range n).all p<;>rfl
set_option linter.all false
def Gw{S X:Type}{body:Int×S->Option ((Int×S)⊕X)}(n:Nat)(H:Nat->S->Prop)(Post:X->Prop)
  (h:∀(i:Nat) s,i<n->H i s->(∃O,body ((i:Int),s)=some (.inl (((i+1:Nat):Int),O))/\H (i+1) O)\/∃x,body ((i:Int),s)=some (.inr x)/\Post x)
  (Y:∀s,H n s->∃x,body ((n:Int),s)=some (.inr x)/\Post x) (s0:S) (B:H 0 s0):∃x,mF body (0,s0)=some x/\Post x:=
 nZ (body:=body) (λ g=>∃k:Nat,g.1=(k:Int)/\k<=n/\H k g.2) (λ g=>n-g.1.toNat) Post
  (λ g ⟨k,V,Z,K⟩=>by
   obtain⟨F,s⟩:=g;simp only at V K;subst V
   by_cases c:k<n
   .rcases h k s c K with⟨O,e,U⟩|⟨x,e,L⟩
    .exact .inl ⟨_,e,⟨k+1,rfl,c,U⟩,by simp only[Qm];omega⟩
    .exact .inr ⟨x,e,L⟩
   .have:k=n:=om
    subst this;obtain⟨x,e,L⟩:=Y s K;exact .inr ⟨x,e,L⟩) (0,s0) ⟨0,rfl,by omega,B⟩
def QB{S X:Type}{body:Int×S->Option ((Int×S)⊕X)}(n:Nat)(st:Nat->S)(x:X)
  (h:∀i:Nat,i<n->body ((i:Int),st i)=some (.inl (((i+1:Nat):Int),st (i+1)))) (O:body ((n:Int),st n)=some (.inr x)):mF body (0,st 0)=some x:=by
 have H:∀k i,i+k=n->mF body ((i:Int),st i)=some x:=by
  intro k;induction k with
  |zero=>intro i K;rw[mP,show i=n by omega,O]
  |succ k U=>intro i K;rw[mP,h i om];exact U (i+1) om
 exact H n 0 om
def Jr{s:aH}(h:nX s=true):qH s.aF=true/\s.aY.length<=8/\Ac s.aY=true/\(pR s).length<=8:=by unfold nX at h;simp only[bY,cB]at h;exact⟨h.1.1.1,h.1.1.2,h.1.2,h.2⟩
def QC{t:List aA}(h:qH t=true):t.length<=8/\Lens t:=⟨((vF t).1 h).1,λ q H=>by
 have:=BB (((vF t).1 h).2.1 q H);omega⟩
def QD{s:aH}(h:∀q∈s.aF,mZ q=true){p:aK}:p∈pR s↔(∃q∈s.aF,hasQ q p=true)\/∃n∈s.aY,n.aM=p:=by unfold pR;rw[Gf,cX,Gq h,cR]
def cOr{s:aH}(h:qH s.aF=true)(Y:s.aY.length<=8):(pR s).length<=1000:=by have H:=(vF _).1 h;have B:=Gg s.aF H.2.1;have O:=I0 (s.aF.flatMap sA);have U:=I0 (oN s.aF++s.aY.map (·.aM));unfold pR;rw[cC,dK]at U;have F:(oN s.aF).length<=(s.aF.flatMap sA).length:=O;omega
def XI(s:aH)(p:aK)(O:s.aY.length<=1000):∃v,j6 s p=some v/\(v.2=true->v.1∈s.aY):=by
 unfold j6;rw[cOk s.aY bR.zero (λ n=>decide (n.aM=p)) (λ n=>(n,true)) (λ i L=>by
  unfold Ki;have H:0<=(i:Int)/\(i:Int)<(s.aY.length:Int):=om
  simp only[H.1,H.2,cW,mR,cG,cH,lL,mK i (show i<4611686018427387904 by omega)];split<;>rfl) (by unfold Ki;simp),eF]
 cases K:s.aY.find? (λ n=>decide (n.aM=p))with
 |some a=>exact⟨_,rfl,λ _=>kN K⟩
 |none=>exact⟨_,rfl,λ h=>by cases h⟩
def cOt{t:List aA}(h:qH t=true)(l:List bR)(p:aK)(nm:ByteArray):∃b,EQ ⟨t,l⟩ p nm=some b:=by
 obtain⟨O,H⟩:=QC h;unfold EQ;rw[z7 _ _ (by simp only;omega),eF]
 by_cases c:nS t nm<0
 .rw[cA (cP c)];exact⟨_,rfl⟩
 .have U:=Jl c;have Y:=H _ (mX (z:=aA.zero) (show(nS t nm).toNat<t.length by omega));rw[bX (by simpa using c),gdp (by simp only;omega),By _ _ (by simp only;omega) (by simp only;omega)];exact⟨_,rfl⟩
def cOu{s:aH}(K:nX s=true)(p:aK):∃U,C9 s p=some U:=by
 obtain⟨Y,h8,_,_⟩:=Jr K;unfold C9;obtain⟨v,B,e2⟩:=XI s p om;rw[B,eF];have F:(if v.2=true then wC s else some false)=some v.2:=by
  rcases hb v.2 with c|c
  .rw[cA c,Je,K,c]
  .rw[bX (by rw[c];decide),c]
 rw[F,eF];rcases hb v.2 with c|c
 .rw[bX (by rw[c];decide)];obtain⟨L,M,e5,_⟩:=DD v.1.bU;rw[M,eF,gdp om];obtain⟨x,V,_⟩:=Gw (body:=Iq s p L) L.length (λ _ b=>b.length=L.length) (λ _=>True) (λ i b hi H=>by
   left;unfold Iq;have O:0<=(i:Int)/\(i:Int)<(L.length:Int):=om
   obtain⟨w,Z⟩:=cOt Y s.aY p (L.getD i aO.zero).name;simp only[O.1,O.2,cW,mR,cG,cH,Qm,mK i (show i<4611686018427387904 by omega),Z,qm];rw[gdp ⟨trivial,by omega⟩];exact⟨_,rfl,by simp only[dV];exact H⟩) (λ b H=>by unfold Iq;simp) (List.replicate ((L.length:Int).toNat) false) (by simp)
  rw[V];exact⟨_,rfl⟩
 .rw[cA (by rw[c];rfl)];exact⟨_,rfl⟩
def cOv{s:aH}(K:nX s=true)(p:aK):∃b,IB s p=some b:=by
 obtain⟨_,M,H,_⟩:=Jr K;unfold IB;obtain⟨v,O,U⟩:=XI s p om;obtain⟨Y,B⟩:=cOu K p;rw[O,eF];rcases hb v.2 with c|c
 .rw[cA c,B,eF,cA c];obtain⟨b,F,_⟩:=Qs (Qh H (U c)).2.1 Y;rw[F];exact⟨_,rfl⟩
 .rw[bX (by rw[c];decide),eF,bX (by rw[c];decide)];exact⟨_,rfl⟩
def XJ(s:aH):∃l,Dc s=some l/\∀x∈l,x∈pR s:=by
 unfold Dc;rw[Je,eF];rcases hb (nX s)with hv|hv
 .obtain⟨O,U,_,B⟩:=Jr hv;rw[bX (by rw[hv];decide),P5 s O U,eF];obtain⟨x,e,hx⟩:=Gw (body:=IC s (pR s)) (pR s).length (λ i l=>l.length<=i/\∀x∈l,x∈pR s) (λ l=>∀x∈l,x∈pR s) (λ i l L ⟨K,hm⟩=>by
   left;unfold IC;have H:0<=(i:Int)/\(i:Int)<((pR s).length:Int):=om
   obtain⟨b,Y⟩:=cOv hv ((pR s).getD i aK.zero);simp only[H.1,H.2,cW,mR,cG,cH,Qm,mK i (show i<4611686018427387904 by omega),Y,qm];cases b with
   |true=>
    rw[cA rfl,gdp om];refine⟨_,rfl,by simp only[cC,Km];omega,λ x hx=>?_⟩;rcases cX.1 hx with hx|hx
    .exact hm x hx
    .rw[dQ.1 hx];exact mX L
   |false=>rw[bX Om];exact⟨_,rfl,by omega,hm⟩) (λ l K=>by unfold IC;simp only[iP,cO,bZ,cI];exact⟨_,rfl,K.2⟩) [] ⟨by simp,λ x hx=>nomatch hx⟩
  rw[e];exact⟨_,rfl,hx⟩
 .rw[cA (by rw[hv];rfl)];exact⟨_,rfl,λ x hx=>nomatch hx⟩
def wq(p:aK)(q:aA):aA:=if hasQ q p=true then{(pQ q p).1 with gen:=q.gen}else q
def xW(s:aH)(p:aK):aH:=⟨s.aF.map (wq p),s.aY.filter λ n=>!decide (n.aM=p)⟩
def cOy(s:aH)(p:aK)(M:s.aF.length<=1000)(O:Lens s.aF)(L:s.aY.length<=1000):Bm s p=some (xW s p):=by
 unfold Bm;have U:mF (FH s p) (0,(⟨[],[]⟩:aH))=some ⟨s.aF.map (wq p),[]⟩:=
  QB (body:=FH s p) s.aF.length (λ k=>⟨(s.aF.take k).map (wq p),[]⟩) _ (λ i K=>by
   unfold FH;have H:0<=(i:Int)/\(i:Int)<(s.aF.length:Int):=om
   have V:=O _ (mX (z:=aA.zero) K);have Y:((s.aF.take i).map (wq p)).length+1<=4294967296:=by rw[dK,dD];omega
   simp only[H.1,H.2,cW,mR,cG,cH,Qm,mK i (show i<4611686018427387904 by omega),PK (s.aF.getD i aA.zero) p om om om,Wf,qm,Y];rw[vJ aA.zero K,fL]
   by_cases c:hasQ (s.aF.getD i aA.zero) p=true
   .rw[cA c,show wq p=λ q=>wq p q from rfl];simp only[dN,iU];rw[show wq p (s.aF.getD i aA.zero)={(pQ (s.aF.getD i aA.zero) p).1 with gen:=(s.aF.getD i aA.zero).gen}from cA c]
   .rw[bX c];simp only[dN,iU];rw[show wq p (s.aF.getD i aA.zero)=s.aF.getD i aA.zero from bX c]) (by
   unfold FH;simp)
 have B:mF (FG s p) (0,(⟨s.aF.map (wq p),[]⟩:aH))=some (xW s p):=
  QB (body:=FG s p) s.aY.length (λ k=>⟨s.aF.map (wq p),(s.aY.take k).filter λ n=>!decide (n.aM=p)⟩) _ (λ i K=>by
   unfold FG;have H:0<=(i:Int)/\(i:Int)<(s.aY.length:Int):=om
   have F:=jB (λ n:bR=>!decide (n.aM=p)) (s.aY.take i);rw[dD]at F;simp only[H.1,H.2,cW,mR,cG,cH,Qm,mK i (show i<4611686018427387904 by omega)];rw[vJ bR.zero K,List.filter_append]
   by_cases c:(!decide ((s.aY.getD i bR.zero).aM=p))=true
   .rw[cA c,gdp om];simp only[jZ,List.filter_nil,c,cH]
   .rw[bX c];simp only[jZ,List.filter_nil,c,bZ,cI,dY]) (by
   unfold FG xW;simp)
 rw[U,eF];unfold LF;rw[B];rfl
def cOz{q:aA}(h:mZ q=true)(p x:aK):hasQ (wq p q) x=true↔hasQ q x=true/\x≠p:=by
 unfold wq;split
 .rename_i c;rw[PA,(Mh h c).2];exact V9 h p x
 .rename_i c;exact⟨λ k=>⟨k,λ e=>c (e▸k)⟩,λ k=>k.1⟩
def cP0{q:aA}(h:mZ q=true)(p:aK):mZ (wq p q)=true:=by
 unfold wq;split
 .rename_i c;rw[(Mh h c).2];have H:=(qR _).1 (V7 h p);have O:=((qR _).1 h).1.gen;exact(qR _).2 ⟨⟨H.1.res,H.1.hv,H.1.cl,H.1.cn,H.1.cg,H.1.wv,H.1.wl,H.1.wg,O⟩,H.2⟩
 .exact h
def XK{q:aA}(h:mZ q=true)(p:aK):(wq p q).aB=q.aB:=by
 unfold wq;split
 .rename_i c;rw[(Mh h c).2];exact MC h p
 .rfl
def XL{s:aH}(h:qH s.aF=true)(O:s.aY.length<=8)(p:aK):qH (xW s p).aF=true/\(xW s p).aY.length<=8:=by
 have H:=(vF _).1 h;refine⟨(vF _).2 ⟨by unfold xW;simp only[dK];exact H.1,λ q U=>?_,?_⟩,dG (jB _ _) O⟩
 .obtain⟨x,L,rfl⟩:=cR.1 U;exact cP0 (H.2.1 x L) p
 .have Y:=H.2.2;unfold AscN at*;unfold xW;rw[kU];exact Y.imp_of_mem λ{a b} V hb K=>by rw[XK (H.2.1 a V),XK (H.2.1 b hb)];exact K
def cP3{s:aH}(h:qH s.aF=true)(U:s.aY.length<=8){p:aK}(Y:p∈pR s):(pR (xW s p)).length<(pR s).length:=by
 have H:=((vF _).1 h).2.1;have B:=((vF _).1 (XL h U p).1).2.1;have hm:∀x∈pR (xW s p),x∈pR s/\x≠p:=λ x hx=>by
  rw[QD B]at hx;rcases hx with⟨q,F,hx⟩|⟨n,O,hx⟩
  .obtain⟨y,K,rfl⟩:=cR.1 F;have:=(cOz (H y K) p x).1 hx;exact⟨(QD H).2 (.inl ⟨y,K,this.1⟩),this.2⟩
  .have:=gY.1 O;refine⟨(QD H).2 (.inr ⟨n,this.1,hx⟩),λ e=>?_⟩;have k:=this.2;rw[hx,e]at k;simp at k
 have nd:(p::pR (xW s p)).Nodup:=iX.2 ⟨λ k=>(hm p k).2 rfl,IZ (IY _)⟩;have:=eT nd (l₂:=pR s) λ x hx=>by
  rcases cK.1 hx with rfl|hx
  .exact Y
  .exact(hm x hx).1
 rw[lN]at this;omega
def cP4(s:aH):∃r,FY s=some r/\r.2.length<=1000:=by
 unfold FY;rw[Je,eF];rcases hb (nX s)with hv|hv
 .obtain⟨H,O,_,h9⟩:=Jr hv;obtain⟨l,U,hl⟩:=XJ s;rw[bX (by rw[hv];decide),U,eF];obtain⟨x,Y,L⟩:=nZ (body:=LU) (λ g=>(qH g.2.1.aF=true/\g.2.1.aY.length<=8)/\(∀x∈g.1,x∈pR g.2.1)/\g.2.2.length+(pR g.2.1).length<=1000) (λ g=>(pR g.2.1).length) (λ x=>qH x.1.aF=true/\x.1.aY.length<=8) (λ g ⟨⟨K,V⟩,k3,k4⟩=>by
   obtain⟨l,s,o⟩:=g;simp only at K V k3 k4;unfold LU;simp only;cases l with
   |nil=>right;rw[bX (by simp)];exact⟨_,rfl,K,V⟩
   |cons a l=>
    left;have B:=k3 a (.head _);have Z:=cP3 K V B;obtain⟨p1,F⟩:=QC K;obtain⟨l',M,hl'⟩:=XJ (xW s a);rw[cA (by simp<;>omega),gdp (by simp<;>omega),gdp om,gdp (by simp<;>omega),show((a::l).getD 0 aK.zero)=a from rfl,cOy s a om F om,eF,M,eF];exact⟨_,rfl,⟨XL K V a,hl',by simp only[cC,Km];omega⟩,Z⟩) (l,s,[]) ⟨⟨H,O⟩,hl,by simp;omega⟩
  rw[Y,eF];unfold O5;rw[P5 _ L.1 L.2];exact⟨_,rfl,cOr L.1 L.2⟩
 .rw[cA (by rw[hv];rfl)];exact⟨_,rfl,by simp⟩
def nums:List (Int×bL):=[(71,⟨64,0,1073741824,0⟩),(82,⟨65,0,1073741824,0⟩),(69,⟨66,0,1073741824,0⟩),(89,⟨67,0,7,0⟩),(83,⟨68,0,3,0⟩),(73,⟨69,1,99,0⟩),(66,⟨70,-1,99,1⟩)]
def DF:l6=some nums:=rfl
def Js(m:aL):Bool:=nums.all λ e=>decide (nQ m ((oP e.2.of).getD 0)=0)
def QE(m:aL):Js m=true↔m.gen=0/\m.round=0/\m.epoch=0/\m.bE=0/\m.site=0/\m.inc=0/\m.label=0:=by unfold Js nums;simp only[List.all_cons,List.all_nil,fG,bY,cB];rfl
def DG(s:aH):Bool:=decide (s.aF.length=0)&&decide (s.aY.length=0)
def cP9(s:aH):DG s=true↔s=aH.zero:=by obtain⟨q,n⟩:=s;unfold DG aH.zero;simp
def Gx(m:aL):Bool:=Js m&&(DG m.state&&(decide (m.options.length=0)&&(decide (m.kind=0)&&(decide (m.aM=aK.zero)&&(decide (m.aZ=aO.zero)&&!m.done)))))
def cPb(m:aL):EE m=some (Gx m):=by
 unfold EE;rw[DF,eF];refine SP λ q B=>?_;have O:∀l:List (Int×bL),(∀e∈l,(oP e.2.of).isSome=true)->
   vP (KQ m) (λ g1:Unit=>(Sum.inl ():Unit⊕Bool)) l ()=some (if l.all (λ e=>decide (nQ m ((oP e.2.of).getD 0)=0))=true then .inl ()else .inr false):=by
  intro l;induction l with
  |nil=>intro _;rfl
  |cons e l F=>
   intro h;simp only[vP,KQ];obtain⟨k,U⟩:=iO.1 (h e (.head _));rw[U,eF]
   by_cases H:nQ m k=0
   .rw[bX (by simp[H])];simp only[F λ x L=>h x (.tail _ L),List.all_cons,U,Xm,H,cG,cL]
   .rw[cA (by simp[H])];simp[U,H]
 have hm:∀i,i∈q↔i<7:=λ i=>by rw[B.mem_iff,eH];rfl
 rw[O _ (λ e Y=>by
  obtain⟨i,K,rfl⟩:=cR.1 Y;have:=(hm i).1 K
  match i,this with
  |0,_=>rfl
  |1,_=>rfl
  |2,_=>rfl
  |3,_=>rfl
  |4,_=>rfl
  |5,_=>rfl
  |6,_=>rfl),eF]
 have M:((q.map (nums.getD · (0,bL.zero))).all λ e=>decide (nQ m ((oP e.2.of).getD 0)=0))=Js m:=by
  rw[dM,QE,dT];constructor
  .intro h;have g:∀i,i<7->nQ m ((oP (nums.getD i (0,bL.zero)).2.of).getD 0)=0:=λ i K=>gH (h _ (cR.2 ⟨i,(hm i).2 K,rfl⟩));exact⟨g 0 om,g 1 om,g 2 om,g 3 om,g 4 om,g 5 om,g 6 om⟩
  .rintro⟨H,V,Z,h3,h4,h5,h6⟩ e Y;obtain⟨i,K,rfl⟩:=cR.1 Y;have:=(hm i).1 K;rw[cB]
   match i,this with
   |0,_=>exact H
   |1,_=>exact V
   |2,_=>exact Z
   |3,_=>exact h3
   |4,_=>exact h4
   |5,_=>exact h5
   |6,_=>exact h6
 rw[M];unfold Gx;cases Js m with
 |false=>rfl
 |true=>
  simp only[cH,cL];unfold KP DG
  by_cases a:m.state.aF.length=0<;>by_cases b:m.state.aY.length=0<;>by_cases c:m.options.length=0<;>simp[a,b,c,iB]
set_option linter.all false
noncomputable def Af(m:aL)(c:Int)(w:aL):Option (aL⊕(aL⊕Bool)):=if(oF c nums).isSome=true then(oP ((oF c nums).getD bL.zero).of).bind λ v3=>if ((decide ((nQ m v3)<((oF c nums).getD bL.zero).low))||(decide (((oF c nums).getD bL.zero).high<(nQ m v3))))||((decide (c=66))&&(decide ((nQ m v3)=0)))then some (.inr (.inr false))else(oP ((oF c nums).getD bL.zero).of).bind λ v4=>some (.inl (sD w v4 0))else(uA m c).bind λ v5=>if !v5 then some (.inr (.inr false))else(B6 c w).bind λ v6=>some (.inl v6)
def XM(k:Int):(Arr.get nL k.toNat ⟨#[]⟩).size<=5:=by
 have h:∀i:Nat,i<16->(Arr.get nL i ⟨#[]⟩).size<=5:=by decide
 by_cases H:k.toNat<16
 .exact h _ H
 .unfold Arr.get pB;rw[bX H];decide
def cPe(m:aL)(U:0<=m.kind)(Y:m.kind<16)(w:aL):
  mF (FN m nums) (0,w)=walk (λ _ b w=>Af m ((b.toNat:Nat):Int) w) (λ w=>.inl w) (Arr.get nL m.kind.toNat ⟨#[]⟩).toList 0 w:=by
 have B:((Arr.get nL m.kind.toNat ⟨#[]⟩).toList.length:Int)=((Arr.get nL m.kind.toNat ⟨#[]⟩).size:Int):=by rw[wK]
 have M:=XM m.kind;have H:=xL (body:=FN m nums) (Arr.get nL m.kind.toNat ⟨#[]⟩).toList 0 (λ i (w:aL)=>((i:Int),w)) (λ _ b w=>Af m ((b.toNat:Nat):Int) w) (λ w=>.inl w)
  (λ i w hi=>by
   unfold FN;have O:0<=(i:Int)/\(i:Int)<((Arr.get nL m.kind.toNat ⟨#[]⟩).size:Int):=om
   simp only[O.1,O.2,U,Y,cW,mR,cG,cH,Qm];rw[mK i om];obtain⟨c,F⟩:∃c,((((Arr.get nL m.kind.toNat ⟨#[]⟩).toList.getD i 0).toNat:Nat):Int)=c:=⟨_,rfl⟩;simp only[F];unfold Af;split
   .cases oP ((oF c nums).getD bL.zero).of with
    |none=>rfl
    |some k=>simp only[qm];split<;>rfl
   .cases uA m c with
    |none=>rfl
    |some v=>
     simp only[qm];split
     .rfl
     .cases B6 c w<;>rfl)
  (λ w=>by unfold FN;rw[B,bX (by simp)]) w
 rw[show((0,w):Int×aL)=(λ(i:Nat) (w:aL)=>((i:Int),w)) 0 w from rfl,H]
def QF(a:aC):Cq a=oU a:=by
 unfold Cq oU pX rI sX
 by_cases h:a.mode=0<;>simp[h]
def optL(l:List aO)(i:Nat):Bool:=oH (l.getD i aO.zero).name&&((decide (i=0)||decide (ltN (l.getD (i-1) aO.zero).name (l.getD i aO.zero).name))&&(decide ((l.getD i aO.zero).aI=aC.zero)||oU (l.getD i aO.zero).aI))
def optV(a:aP):Bool:=(mV a.aM&&(decide (a.label=-1)||(decide (1<=a.label)&&decide (a.label<=99))))&&((decide (1<=a.cost)&&(decide (a.cost<=1073741824)&&decide (a.lower.length<=8)))&&(List.range a.lower.length).all (optL a.lower))
def MM(a:aP):m7 a=some (optV a):=by
 unfold m7 optV;cases c1:mV a.aM with
 |false=>rw[cA (by simp)];rfl
 |true=>
  by_cases c2:a.label=-1\/1<=a.label/\a.label<=99
  .rw[bX (by simp;omega)];have H:(decide (a.label=-1)||(decide (1<=a.label)&&decide (a.label<=99)))=true:=by simpa using c2
   rw[H]
   by_cases O:1<=a.cost/\a.cost<=1073741824/\a.lower.length<=8
   .rw[bX (by simp;omega),xV a.lower.length (optL a.lower) (λ i hi=>by
     unfold KT optL;have Y:0<=(i:Int)/\(i:Int)<(a.lower.length:Int):=om
     simp only[Y.1,Y.2,cW,mR,cG,cH,lL];rw[mH (x:=(i:Int)+1) om om,IR,eF];obtain⟨x,hx⟩:∃x,a.lower.getD i aO.zero=x:=⟨_,rfl⟩;simp only[hx,QF]
     by_cases B:i=0
     .subst B;rw[mL (by simp)];rcases hb (oH x.name)with b1|b1<;>rcases hb (oU x.aI)with b2|b2<;>by_cases U:x.aI=aC.zero<;>simp[b1,b2,U]
     .rw[w9 i om om,mL (by intro _;omega)];simp only[show(0:Int)<(i:Int)by omega,cG,cL,lL,B,cO,dP];unfold ltN;rcases hb (oH x.name)with b1|b1<;>rcases hb (Op.bytesLess (a.lower.getD (i-1) aO.zero).name.toList x.name.toList)with b4|b4<;>rcases hb (oU x.aI)with b2|b2<;>by_cases U:x.aI=aC.zero<;>simp[b1,b2,U,b4,-List.getD_eq_getElem?_getD]) (by unfold KT;simp),eF]
    rw[cP O.1,cP O.2.1,cP O.2.2];cases(List.range a.lower.length).all (optL a.lower)<;>rfl
   .rw[cA (by simp;omega)];have:(decide (1<=a.cost)&&(decide (a.cost<=1073741824)&&decide (a.lower.length<=8)))=false:=by
     rw[dI];intro h;simp at h;omega
    rw[this];rfl
  .rw[cA (by simp;omega)];have H:(decide (a.label=-1)||(decide (1<=a.label)&&decide (a.label<=99)))=false:=by
    rw[dI];intro h;simp at h;omega
   rw[H];rfl
def XN{x y:List UInt8}(h:Op.bytesLess x y=true):Op.bytesLess y x=false:=by rw[dI];intro k;have:=PP h k;rw[Mi]at this;cases this
def cPi(x y:ByteArray):(Op.bytesLess y.toList x.toList||y.toList==x.toList)=!Op.bytesLess x.toList y.toList:=by
 by_cases e:x=y
 .subst e;simp[Mi]
 .have H:¬y.toList=x.toList:=λ k=>e (i6.1 k).symm;rcases XH (x:=x.toList) (y:=y.toList) (λ k=>H k.symm)with k|k
  .rw[k,XN k];simp[H]
  .rw[k,XN k];rfl
def XO(a:aC):oG a=decide (a=aC.zero):=by
 unfold oG;obtain⟨m,u⟩:=a;unfold aC.zero
 by_cases h:m=0<;>by_cases k:u=0<;>simp[h,k]
def QG(a:aP):o4 a=some (optV a):=by
 unfold o4 optV;rw[xM]
 by_cases c:(mV a.aM=true/\(a.label=-1\/1<=a.label/\a.label<=99))/\(1<=a.cost/\a.cost<=1073741824/\a.lower.length<=8)
 .obtain⟨⟨U,c2⟩,H⟩:=c;have F:(decide (a.label=-1)||(decide (1<=a.label)&&decide (a.label<=99)))=true:=by simpa using c2
  rw[bX (by simp[U];omega),xV a.lower.length (optL a.lower) (λ i hi=>by
   unfold Lc optL;have Y:0<=(i:Int)/\(i:Int)<(a.lower.length:Int):=om
   simp only[Y.1,Y.2,cW,mR,cG,cH,lL];rw[mH (x:=(i:Int)+1) om om,F7,eF];obtain⟨x,hx⟩:∃x,a.lower.getD i aO.zero=x:=⟨_,rfl⟩;simp only[hx,XO,cPi];rw[show pX x.aI=oU x.aI from rfl]
   by_cases B:i=0
   .subst B;rw[mL (by simp)];rcases hb (oH x.name)with b1|b1<;>rcases hb (oU x.aI)with b2|b2<;>by_cases O:x.aI=aC.zero<;>simp[b1,b2,O]
   .rw[w9 i om om,mL (by intro _;omega)];simp only[show(0:Int)<(i:Int)by omega,cG,cL,lL,B,cO,dP];unfold ltN;rcases hb (oH x.name)with b1|b1<;>rcases hb (Op.bytesLess (a.lower.getD (i-1) aO.zero).name.toList x.name.toList)with b4|b4<;>rcases hb (oU x.aI)with b2|b2<;>by_cases O:x.aI=aC.zero<;>simp[b1,b2,O,b4,-List.getD_eq_getElem?_getD]) (by unfold Lc;simp),eF]
  rw[U,F,cP H.1,cP H.2.1,cP H.2.2];cases(List.range a.lower.length).all (optL a.lower)<;>rfl
 .rw[cA (by
   rcases hb (mV a.aM)with b|b
   .simp[b]at c⊢;omega
   .simp[b])]
  symm
  congr 1;rw[dI];intro h;simp only[bY,dU,cB]at h;exact c ⟨⟨h.1.1,h.1.2⟩,h.2.1⟩
def inN(lo hi x:Int):Bool:=decide (lo<=x)&&decide (x<=hi)
def qB(m:aL)(c:Nat):Bool:=match c with
 |80=>mV m.aM
 |71=>inN 0 1073741824 m.gen
 |82=>inN 0 1073741824 m.round
 |69=>inN 0 1073741824 m.epoch
 |89=>inN 0 7 m.bE
 |83=>inN 0 3 m.site
 |73=>inN 1 99 m.inc
 |66=>inN (-1) 99 m.label&&!decide (m.label=0)
 |65=>oH m.aZ.name&&oU m.aZ.aI
 |97=>oH m.aZ.name&&(decide (m.aZ.aI=aC.zero)||oU m.aZ.aI)
 |78=>decide (m.state.aF.length=0)&&nX m.state
 |76=>decide (m.state.aY.length=0)&&nX m.state
 |79=>decide (m.options.length<=40)&&m.options.all optV
 |_=>true
def clrF(c:Nat)(w:aL):aL:=match c with
 |80=>{w with aM:=aK.zero}
 |71=>{w with gen:=0}
 |82=>{w with round:=0}
 |69=>{w with epoch:=0}
 |89=>{w with bE:=0}
 |83=>{w with site:=0}
 |73=>{w with inc:=0}
 |66=>{w with label:=0}
 |65=>{w with aZ:=aO.zero}
 |97=>{w with aZ:=aO.zero}
 |68=>{w with done:=false}
 |78=>{w with state:=aH.zero}
 |76=>{w with state:=aH.zero}
 |79=>{w with options:=[]}
 |_=>w
def rP:List Nat:=[80,71,82,69,89,83,73,66,65,97,68,78,76,79]
def DH(m w:aL)(c:Int)(n:bL)(k:Nat)(H:oF c nums=some n)(O:oP n.of=some k):
  Af m c w=some (if(!(decide (nQ m k<n.low)||decide (n.high<nQ m k)||(decide (c=66)&&decide (nQ m k=0))))=true then .inl (sD w k 0)else .inr (.inr false)):=by
 unfold Af;rw[H];simp only[Option.isSome_some,cH,Xm,O,qm];cases(decide (nQ m k<n.low)||decide (n.high<nQ m k)||(decide (c=66)&&decide (nQ m k=0)))<;>rfl
def DI(m w:aL)(c:Int)(b:Bool)(w':aL)(H:oF c nums=none)(O:uA m c=some b)(U:B6 c w=some w'):
  Af m c w=some (if b=true then .inl w' else .inr (.inr false)):=by
 unfold Af;rw[H];simp only[oc,bZ,cI,O,U,qm];cases b<;>rfl
def DJ(lo hi x:Int)(d:Bool):(!(decide (x<lo)||decide (hi<x)||d))=(inN lo hi x&&!d):=by unfold inN;rw[dM];cases d<;>simp
def QH{α:Type}(l:List α)(z:α)(p:α->Bool):((List.range l.length).all λ i=>p (l.getD i z))=l.all p:=by
 rw[dM,dT,dT];constructor
 .intro h x hx;obtain⟨i,hi,rfl⟩:=gJ hx;have:=h i (eH.2 hi);rwa [Au _ _ _ hi]at this
 .intro h i hi;exact h _ (mX (eH.1 hi))
def cPr(m:aL):uA m 79=some (decide (m.options.length<=40)&&m.options.all optV):=by
 unfold uA;rw[bX Om,bX Om,bX Om,bX Om,bX Om,cA Om]
 by_cases h:m.options.length<=40
 .rw[bX (by simp;omega),xV m.options.length (λ i=>optV (m.options.getD i aP.zero)) (λ i hi=>by
   unfold Lx;have H:0<=(i:Int)/\(i:Int)<(m.options.length:Int):=om
   simp only[H.1,H.2,cW,mR,cG,cH,lL];rw[MM,eF,mH om om];cases optV (m.options.getD i aP.zero)<;>rfl) (by unfold Lx;simp),eF,QH m.options aP.zero optV,cP h]
  cases m.options.all optV<;>rfl
 .rw[cA (by simp;omega),fM h];rfl
def cPs(m w:aL)(c:Nat)(H:c∈rP):Af m (c:Int) w=some (if qB m c=true then .inl (clrF c w)else .inr (.inr false)):=by
 unfold rP at H;simp only[cK,eP,gT]at H;rcases H with rfl|rfl|rfl|rfl|rfl|rfl|rfl|rfl|rfl|rfl|rfl|rfl|rfl|rfl
 .exact DI m w 80 _ _ rfl rfl rfl
 .rw[DH m w _ ⟨64,0,1073741824,0⟩ 0 rfl rfl,DJ];simp[qB,clrF,nQ,sD]
 .rw[DH m w _ ⟨65,0,1073741824,0⟩ 1 rfl rfl,DJ];simp[qB,clrF,nQ,sD]
 .rw[DH m w _ ⟨66,0,1073741824,0⟩ 2 rfl rfl,DJ];simp[qB,clrF,nQ,sD]
 .rw[DH m w _ ⟨67,0,7,0⟩ 3 rfl rfl,DJ];simp[qB,clrF,nQ,sD]
 .rw[DH m w _ ⟨68,0,3,0⟩ 4 rfl rfl,DJ];simp[qB,clrF,nQ,sD]
 .rw[DH m w _ ⟨69,1,99,0⟩ 5 rfl rfl,DJ];simp[qB,clrF,nQ,sD]
 .rw[DH m w _ ⟨70,-1,99,1⟩ 6 rfl rfl,DJ];simp[qB,clrF,nQ,sD]
 .refine DI m w 65 _ _ rfl ?_ rfl;unfold uA;rw[bX Om,cA Om,IR,eF,QF];rfl
 .refine DI m w 97 _ _ rfl ?_ rfl;unfold uA;rw[bX Om,bX Om,cA Om,IR,eF,QF];rfl
 .exact DI m w 68 _ _ rfl rfl rfl
 .refine DI m w 78 _ _ rfl ?_ rfl;unfold uA;rw[bX Om,bX Om,bX Om,cA Om]
  by_cases h:m.state.aF.length=0
  .rw[cA (by simp[h]),Gj,eF];simp[qB,h]
  .rw[bX (by simp[h]),eF];simp[qB,h]
 .refine DI m w 76 _ _ rfl ?_ rfl;unfold uA;rw[bX Om,bX Om,bX Om,bX Om,cA Om]
  by_cases h:m.state.aY.length=0
  .rw[cA (by simp[h]),Gj,eF];simp[qB,h]
  .rw[bX (by simp[h]),eF];simp[qB,h]
 .exact DI m w 79 _ _ rfl (cPr m) rfl
def XP(m:aL):∀(l:List UInt8) (i:Nat) (w:aL),(∀b∈l,b.toNat∈rP)->walk (λ _ b w=>Af m ((b.toNat:Nat):Int) w) (λ w=>Sum.inl (β:=Bool) w) l i w=some (if(l.all λ b=>qB m b.toNat)=true then .inl (l.foldl (λ w b=>clrF b.toNat w) w)else .inr false)
 |[],i,w,_=>rfl
 |b::l,i,w,h=>by
  simp only[walk];rw[cPs m w _ (h b (.head _))];cases hf:qB m b.toNat with
  |false=>simp[hf]
  |true=>simp only[cH];rw[XP m l (i+1) _ λ x hx=>h x (.tail _ hx)];simp[hf]
def mY(k:Int):List UInt8:=(Arr.get nL k.toNat ⟨#[]⟩).toList
def QI{k:Int}(h:k<16):∀b∈mY k,b.toNat∈rP:=by
 have g:∀i:Nat,i<16->∀b∈(Arr.get nL i ⟨#[]⟩).data.toList,b.toNat∈rP:=by decide
 unfold mY;rw[lM];exact g k.toNat om
def tG(m:aL):Bool:=(decide (1<=m.kind)&&decide (m.kind<=15))&&(((mY m.kind).all λ b=>qB m b.toNat)&&Gx ((mY m.kind).foldl (λ w b=>clrF b.toNat w) {m with kind:=0}))
def cPw(m:aL):FO m=some (tG m):=by
 unfold FO tG AA
 by_cases h:1<=m.kind/\m.kind<=15
 .rw[bX (by simp;omega),DF,eF,mL om,cPe m om om,XP m (Arr.get nL m.kind.toNat ⟨#[]⟩).toList 0 _ (QI (k:=m.kind) om),eF];rw[cP h.1,cP h.2];cases hf:(mY m.kind).all λ b=>qB m b.toNat with
  |false=>rw[show((Arr.get nL m.kind.toNat ⟨#[]⟩).toList.all λ b=>qB m b.toNat)=false from hf];rfl
  |true=>rw[show((Arr.get nL m.kind.toNat ⟨#[]⟩).toList.all λ b=>qB m b.toNat)=true from hf];simp only[cH,LP,cPb,qm,cL];rfl
 .rw[cA (by simp;omega)];have:(decide (1<=m.kind)&&decide (m.kind<=15))=false:=by rw[dI];intro k;simp at k;omega
  rw[this];rfl
def oY{l:List Int}{x:Int}(h:okI x)(O:room l (encI x)):pN l (IntKind.u64.wrap x)=some (l++encI x)/\pW l (IntKind.u64.wrap x)=some (l++encI x):=by unfold room at O;obtain⟨H,U⟩:=h;rw[tF x H om];have:x=((x.toNat:Nat):Int):=(iR H).symm;unfold encI;rw[this,lL];exact⟨WV om om,WT om om⟩
def MN{l:List Int}{s:ByteArray}(h:s.size<=1024)(H:room l (encT s)):Ct l s=some (l++encT s)/\EI l s=some (l++encT s):=Mx h H
def MO{l:List Int}{p:aK}(h:mV p=true)(O:room l (encP p)):AS l p=some (l++encP p)/\Cv l p=some (l++encP p):=by
 obtain⟨Y,B,F⟩:=Jh h;unfold encP at O⊢;have M:=O.left.left;have r2:=O.left.right;have U:=O.right;rw[<-cE]at U;constructor
 .unfold AS;have t1:∀H:List Int,room H (encI p.site)->yS p (0,H)=some (.inl (1,H++encI p.site)):=λ H ha=>by
   unfold yS;rw[cA (by simp),gdp (by simp)];show((pN H (IntKind.u64.wrap p.site)).bind λ v1=>some (Sum.inl (IntKind.i64.wrap (0+1),v1)))=_;rw[(oY Y ha).1];rfl
  have t2:∀H:List Int,room H (encI p.inc)->yS p (1,H)=some (.inl (2,H++encI p.inc)):=λ H ha=>by unfold yS;rw[cA (by simp),gdp (by simp)];show((pN H (IntKind.u64.wrap p.inc)).bind λ v1=>some (Sum.inl (IntKind.i64.wrap (1+1),v1)))=_;rw[(oY B ha).1];rfl
  have t3:∀H:List Int,room H (encI p.num)->yS p (2,H)=some (.inl (3,H++encI p.num)):=λ H ha=>by unfold yS;rw[cA (by simp),gdp (by simp)];show((pN H (IntKind.u64.wrap p.num)).bind λ v1=>some (Sum.inl (IntKind.i64.wrap (2+1),v1)))=_;rw[(oY F ha).1];rfl
  have t4:∀H:List Int,yS p (3,H)=some (.inr H):=λ H=>by unfold yS;rw[bX (by simp)]
  have hlen:l.length<=4294967296:=by unfold room at O;omega
  rw[gdp hlen,bX (by simp[h]),mP,t1 l M];simp only;rw[mP,t2 _ r2];simp only;rw[mP,t3 _ U];simp only;rw[mP,t4];simp only[cE];rfl
 .unfold Cv;rw[xM,bX (by simp[h]),(zS Y M).2,eF,(zS B r2).2,eF,(oY F U).2];simp only[cE];rfl
def Gy{α:Type}{body:Int×List Int->Option ((Int×List Int)⊕List Int)}{enc:α->List Int}{ok:α->Prop}(l:List α)(z:α)(hlen:l.length<=1000)
  (Y:∀(i:Nat) acc,i<l.length->ok (l.getD i z)->room acc (enc (l.getD i z))->body ((i:Int),acc)=some (.inl (((i+1:Nat):Int),acc++enc (l.getD i z))))
  (B:∀acc,body ((l.length:Int),acc)=some (.inr acc)) (O:∀x∈l,ok x) (acc:List Int) (F:room acc (l.flatMap enc)):mF body (0,acc)=some (acc++l.flatMap enc):=by
 have U:∀k i (acc:List Int),i+k=l.length->room acc ((l.drop i).flatMap enc)->mF body ((i:Int),acc)=some (acc++(l.drop i).flatMap enc):=by
  intro k;induction k with
  |zero=>
   intro i acc hi _;have:i=l.length:=om
   subst this;rw[mP,iT,B];simp
  |succ k M=>
   intro i acc hi H;have hlt:i<l.length:=om
   rw[xK l i z hlt]at H⊢;rw[eE]at H⊢;rw[mP,Y i acc hlt (O _ (mX (z:=z) hlt)) H.left];simp only;rw[M (i+1) _ om H.right,cE]
 exact U l.length 0 acc om F
def encL(x:aO):List Int:=encT x.name++(encI x.aI.mode++encI x.aI.aU)
def encO(a:aP):List Int:=encP a.aM++(encI (a.label+1)++(encI a.cost++(encI (a.lower.length:Int)++a.lower.flatMap encL)))
def okL'(x:aO):Prop:=x.name.size<=12/\okA x.aI
structure OkO (a:aP):Prop where
 p:mV a.aM=true
 l:-1<=a.label/\a.label<=99
 c:okI a.cost
 n:a.lower.length<=8
 e:∀x∈a.lower,okL' x
def Gz{a:aP}(h:optV a=true):OkO a:=by
 unfold optV at h;simp only[bY,dU,cB]at h;obtain⟨⟨H,B⟩,⟨F,O,U⟩,Y⟩:=h;refine⟨H,by omega,⟨by omega,O⟩,U,λ x hx=>?_⟩;obtain⟨i,hi,rfl⟩:=gJ hx;have:=dT.1 Y i (eH.2 hi);unfold optL at this;rw[Au _ _ _ hi]at this;simp only[bY,dU,cB]at this;refine⟨xU this.1,?_⟩;rcases this.2.2 with k|k
 .rw[k];unfold okA okI aC.zero;simp
 .exact zR k
def cQ1{x:aO}(h:okL' x):(encL x).length<=2000:=by have H:=Jk (s:=x.name) (by have:=h.1;omega);have O:=oD h.2.1;have U:=oD h.2.2;unfold encL;simp only[cC];omega
def QJ{a:aP}(h:OkO a):(encO a).length<=20000:=by have H:=BF h.p;have O:=oD (x:=a.label+1) (by have:=h.l;unfold okI;omega);have U:=oD h.c;have Y:=oD (x:=(a.lower.length:Int)) (by have:=h.n;unfold okI;omega);have B:(a.lower.flatMap encL).length<=2000*a.lower.length:=wL λ x hx=>cQ1 (h.e x hx);have F:=h.n;unfold encO;simp only[cC];omega
def XQ{a:aP}(h:optV a=true){l:List Int}(H:room l (encO a)):CQ l a=some (l++encO a)/\CZ l a=some (l++encO a):=by
 have O:=Gz h;have hl:=O.l;have hn:=O.n;have h0:room l (encO a):=H;have hlen:l.length<=4294967296:=by unfold room at H;omega
 have Y:okI (a.label+1):=by unfold okI;omega
 have B:okI (a.lower.length:Int):=by unfold okI;omega
 unfold encO at H⊢;have w:IntKind.i64.wrap (a.label+1)=a.label+1:=mH om om;have F:=H.left
 replace H:=H.right
 have M:=H.left
 replace H:=H.right
 have r3:=H.left
 replace H:=H.right
 have r4:=H.left
 replace H:=H.right
 constructor
 .unfold CQ Eu;rw[gdp hlen,eF,MM,eF,h,bX Om,(MO O.p F).1,eF,w,(oY Y M).1,eF,(oY O.c r3).1,eF,(oY B r4).1,eF];rw[Gy (body:=HZ a) (enc:=encL) (ok:=okL') a.lower aO.zero om (λ i U hi hx ha=>by
   unfold encL at ha⊢;unfold HZ;simp only;rw[cA (by simpa using hi),gdp om];simp only[lL];rw[(MN (by have:=hx.1;omega) ha.left).1,eF,(oY hx.2.1 ha.right.left).1,eF,(oY hx.2.2 ha.right.right).1,eF,mK i om];simp only[cE]) (λ U=>by unfold HZ;simp) O.e _ H,eF]
  unfold OF;simp only[cE]
 .unfold CZ;rw[gdp hlen,QG,eF,h,bX Om,(MO O.p F).2,eF,w,(oY Y M).2,eF,(oY O.c r3).2,eF,(oY B r4).2,eF];rw[Gy (body:=H6 a) (enc:=encL) (ok:=okL') a.lower aO.zero om (λ i U hi hx ha=>by
   unfold encL at ha⊢;unfold H6;simp only;rw[cA (by simpa using hi),gdp om];simp only[lL];rw[(MN (by have:=hx.1;omega) ha.left).2,eF,(oY hx.2.1 ha.right.left).2,eF,(oY hx.2.2 ha.right.right).2,eF,mK i om];simp only[cE]) (λ U=>by unfold H6;simp) O.e _ H,eF]
  unfold OM;simp only[cE]
def encF(m:aL)(c:Nat):List Int:=match c with
 |80=>encP m.aM
 |71=>encI m.gen
 |82=>encI m.round
 |69=>encI m.epoch
 |89=>encI m.bE
 |83=>encI m.site
 |73=>encI m.inc
 |66=>encI (m.label+1)
 |65=>encT m.aZ.name++(encI m.aZ.aI.mode++encI m.aZ.aI.aU)
 |97=>encT m.aZ.name++(encI m.aZ.aI.mode++encI m.aZ.aI.aU)
 |68=>[if m.done=true then 1 else 0]
 |78=>encI ((encS m.state).length:Int)++encS m.state
 |76=>encI ((encS m.state).length:Int)++encS m.state
 |79=>encI (m.options.length:Int)++m.options.flatMap encO
 |_=>[]
def MP{lo hi x:Int}:inN lo hi x=true↔lo<=x/\x<=hi:=by unfold inN;simp
def uG{lo hi x:Int}(h:inN lo hi x=true)(H:0<=lo)(O:hi<=1073741824):okI x:=by have:=MP.1 h;unfold okI;omega
def QK{a:aC}(h:(decide (a=aC.zero)||oU a)=true):okA a:=by
 rw[dU]at h;rcases h with k|k
 .rw[gH k];unfold okA okI aC.zero;simp
 .exact zR k
def cQ7{m:aL}{c:Nat}(F:c∈rP)(H:qB m c=true):(encF m c).length<=1000000:=by
 have O:∀{lo hi x:Int},inN lo hi x=true->0<=lo->hi<=1073741824->(encI x).length<=1000000:=λ h h0 U=>by have:=oD (uG h h0 U);omega
 have Y:m.aZ.name.size<=12->okA m.aZ.aI->(encT m.aZ.name++(encI m.aZ.aI.mode++encI m.aZ.aI.aU)).length<=1000000:=λ h k=>by have U:=Jk (s:=m.aZ.name) om;have M:=oD k.1;have h3:=oD k.2;simp only[cC];omega
 have B:nX m.state=true->(encI ((encS m.state).length:Int)++encS m.state).length<=1000000:=λ h=>by have U:=Dw (BE h).1;have M:=oD (x:=((encS m.state).length:Int)) (by unfold okI;omega);simp only[cC];omega
 unfold rP at F;simp only[cK,eP,gT]at F;rcases F with rfl|rfl|rfl|rfl|rfl|rfl|rfl|rfl|rfl|rfl|rfl|rfl|rfl|rfl
 .have:=BF (p:=m.aM) H;show(encP m.aM).length<=_;omega
 .exact O H Om Om
 .exact O H Om Om
 .exact O H Om Om
 .exact O H Om Om
 .exact O H Om Om
 .exact O H Om Om
 .have h:(inN (-1) 99 m.label&&!decide (m.label=0))=true:=H;rw[bY]at h;have U:=MP.1 h.1;have:=oD (x:=m.label+1) (by unfold okI;omega);show(encI (m.label+1)).length<=_;omega
 .have h:(oH m.aZ.name&&oU m.aZ.aI)=true:=H;rw[bY]at h;exact Y (xU h.1) (zR h.2)
 .have h:(oH m.aZ.name&&(decide (m.aZ.aI=aC.zero)||oU m.aZ.aI))=true:=H;rw[bY]at h;exact Y (xU h.1) (QK h.2)
 .show([if m.done=true then 1 else 0]:List Int).length<=_;simp
 .have h:(decide (m.state.aF.length=0)&&nX m.state)=true:=H;rw[bY]at h;exact B h.2
 .have h:(decide (m.state.aY.length=0)&&nX m.state)=true:=H;rw[bY]at h;exact B h.2
 .have h:(decide (m.options.length<=40)&&m.options.all optV)=true:=H;rw[bY,cB,dT]at h;have U:(m.options.flatMap encO).length<=20000*m.options.length:=wL λ x hx=>QJ (Gz (h.2 x hx));have M:=oD (x:=(m.options.length:Int)) (by have:=h.1;unfold okI;omega);show(encI (m.options.length:Int)++m.options.flatMap encO).length<=_;have:=h.1;simp only[cC];omega
noncomputable def GA(m:aL)(c:Int)(acc:List Int):Option (List Int):=if(oF c nums).isSome=true then(oP ((oF c nums).getD bL.zero).of).bind λ v3=>pN acc (IntKind.u64.wrap (IntKind.i64.wrap ((nQ m v3)+((oF c nums).getD bL.zero).plus)))else vB m c acc
def DK(m:aL)(c:Int)(acc:List Int)(n:bL)(k:Nat)(O:oF c nums=some n)(U:oP n.of=some k)(H:okI (nQ m k+n.plus))(Y:room acc (encI (nQ m k+n.plus))):
  GA m c acc=some (acc++encI (nQ m k+n.plus)):=by
 unfold GA;rw[O];simp only[Option.isSome_some,cH,Xm,U,qm];rw[mH (by have:=H.1;omega) (by have:=H.2;omega),(oY H Y).1]
def DL(m:aL)(c:Int)(acc:List Int)(H:oF c nums=none):GA m c acc=vB m c acc:=by unfold GA;rw[H];rfl
def cQb(m:aL)(c:Nat)(acc:List Int)(F:c∈rP)(O:qB m c=true)(H:room acc (encF m c)):GA m (c:Int) acc=some (acc++encF m c):=by
 have U:m.aZ.name.size<=12->okA m.aZ.aI->room acc (encT m.aZ.name++(encI m.aZ.aI.mode++encI m.aZ.aI.aU))->
   ((Ct acc m.aZ.name).bind λ v2=>(pN v2 (IntKind.u64.wrap m.aZ.aI.mode)).bind λ v3=>(pN v3 (IntKind.u64.wrap m.aZ.aI.aU)).bind λ v4=>some v4)=some (acc++(encT m.aZ.name++(encI m.aZ.aI.mode++encI m.aZ.aI.aU))):=λ h k H=>by
  rw[(MN om H.left).1,eF,(oY k.1 H.right.left).1,eF,(oY k.2 H.right.right).1,eF];simp only[cE]
 have Y:nX m.state=true->room acc (encI ((encS m.state).length:Int)++encS m.state)->
   ((Bf m.state).bind λ v5=>(pN acc (IntKind.u64.wrap (v5.1.length:Int))).bind λ v6=>gd (v6.length+v5.1.length<=4294967296)<|some (v6++v5.1))=some (acc++(encI ((encS m.state).length:Int)++encS m.state)):=λ h H=>by
  have M:=Dw (BE h).1;rw[cJr,h,cA rfl,eF,(oY (by unfold okI;omega) H.left).1,eF];have:=H.right;unfold room at this;rw[gdp (by simp only;omega),cE]
 unfold rP at F;simp only[cK,eP,gT]at F;rcases F with rfl|rfl|rfl|rfl|rfl|rfl|rfl|rfl|rfl|rfl|rfl|rfl|rfl|rfl
 .rw[DL m _ acc rfl];unfold vB;rw[cA Om,(MO (p:=m.aM) O H).1];rfl
 .have e:=DK m 71 acc ⟨64,0,1073741824,0⟩ 0 rfl rfl;simp only[nQ,iW]at e;exact e (uG (lo:=0) (hi:=1073741824) O Om Om) H
 .have e:=DK m 82 acc ⟨65,0,1073741824,0⟩ 1 rfl rfl;simp only[nQ,iW]at e;exact e (uG (lo:=0) (hi:=1073741824) O Om Om) H
 .have e:=DK m 69 acc ⟨66,0,1073741824,0⟩ 2 rfl rfl;simp only[nQ,iW]at e;exact e (uG (lo:=0) (hi:=1073741824) O Om Om) H
 .have e:=DK m 89 acc ⟨67,0,7,0⟩ 3 rfl rfl;simp only[nQ,iW]at e;exact e (uG (lo:=0) (hi:=7) O Om Om) H
 .have e:=DK m 83 acc ⟨68,0,3,0⟩ 4 rfl rfl;simp only[nQ,iW]at e;exact e (uG (lo:=0) (hi:=3) O Om Om) H
 .have e:=DK m 73 acc ⟨69,1,99,0⟩ 5 rfl rfl;simp only[nQ,iW]at e;exact e (uG (lo:=1) (hi:=99) O Om Om) H
 .have h:(inN (-1) 99 m.label&&!decide (m.label=0))=true:=O;rw[bY]at h;have M:=MP.1 h.1;exact DK m 66 acc ⟨70,-1,99,1⟩ 6 rfl rfl (by simp only[nQ];unfold okI;omega) H
 .have h:(oH m.aZ.name&&oU m.aZ.aI)=true:=O;rw[bY]at h;rw[DL m _ acc rfl];unfold vB yZ;rw[bX Om,cA Om,cA Om];exact U (xU h.1) (zR h.2) H
 .have h:(oH m.aZ.name&&(decide (m.aZ.aI=aC.zero)||oU m.aZ.aI))=true:=O;rw[bY]at h;rw[DL m _ acc rfl];unfold vB yZ;rw[bX Om,bX Om,cA Om];exact U (xU h.1) (QK h.2) H
 .rw[DL m _ acc rfl];unfold vB yZ;rw[bX Om,bX Om,bX Om,cA Om];have hl:acc.length+1<=4294967296:=by unfold room at H;omega
  show _=some (acc++[if m.done=true then 1 else 0]);cases m.done with
  |true=>rw[cA rfl,gdp hl];rfl
  |false=>rw[bX Om,gdp hl];rfl
 .have h:(decide (m.state.aF.length=0)&&nX m.state)=true:=O;rw[bY]at h;rw[DL m _ acc rfl];unfold vB yZ C4;rw[bX Om,bX Om,bX Om,bX Om,cA Om,cA Om];exact Y h.2 H
 .have h:(decide (m.state.aY.length=0)&&nX m.state)=true:=O;rw[bY]at h;rw[DL m _ acc rfl];unfold vB yZ C4;rw[bX Om,bX Om,bX Om,bX Om,bX Om,cA Om];exact Y h.2 H
 .have h:(decide (m.options.length<=40)&&m.options.all optV)=true:=O;rw[bY,cB,dT]at h;rw[DL m _ acc rfl];unfold vB yZ C4;rw[bX Om,bX Om,bX Om,bX Om,bX Om,bX Om,cA Om];have B:room acc (encI (m.options.length:Int)++m.options.flatMap encO):=H;have h0:=h.1;rw[(oY (by unfold okI;omega) B.left).1,eF];rw[Gy (body:=Ih m) (enc:=encO) (ok:=λ a=>optV a=true) m.options aP.zero om (λ i acc hi hx ha=>by
   unfold Ih;simp only;rw[cA (by simpa using hi),gdp om];simp only[lL];rw[(XQ hx ha).1,eF,mK i om]) (λ acc=>by unfold Ih;simp) h.2 _ B.right,eF]
  unfold Lz;rw[cE];rfl
def encM(m:aL):List Int:=encI m.kind++(mY m.kind).flatMap λ b=>encF m b.toNat
def MQ(k:Int):(mY k).length<=5:=by unfold mY;rw[wK];exact XM k
def Jt{m:aL}(h:tG m=true):(1<=m.kind/\m.kind<=15)/\∀b∈mY m.kind,b.toNat∈rP/\qB m b.toNat=true:=by unfold tG at h;simp only[bY,cB,dT]at h;exact⟨h.1,λ b hb=>⟨QI om b hb,h.2.1 b hb⟩⟩
def cQe{m:aL}(h:tG m=true):room (encI m.kind) ((mY m.kind).flatMap λ b=>encF m b.toNat):=by obtain⟨O,H⟩:=Jt h;have U:=oD (x:=m.kind) (by unfold okI;omega);have Y:((mY m.kind).flatMap λ b=>encF m b.toNat).length<=1000000*(mY m.kind).length:=wL λ b hb=>cQ7 (H b hb).1 (H b hb).2;have B:=MQ m.kind;unfold room;omega
def QL{m:aL}(h:tG m=true):Bg m=some (encM m):=by
 obtain⟨h1,F⟩:=Jt h;have M:=cQe h;have U:room [] (encI m.kind):=by unfold room at*;simp;omega
 have h5:=MQ m.kind;unfold Bg;rw[DF,eF,(oY (by unfold okI;omega) U).1,eF,mL om,lP];have H:((mY m.kind).length:Int)=((Arr.get nL m.kind.toNat ⟨#[]⟩).size:Int):=by unfold mY;rw[wK]
 rw[Gy (body:=Ii m nums) (enc:=λ b:UInt8=>encF m b.toNat) (ok:=λ b=>b.toNat∈rP/\qB m b.toNat=true) (mY m.kind) 0 om (λ i O hi hx ha=>by
  unfold Ii;have Y:0<=(i:Int)/\(i:Int)<((Arr.get nL m.kind.toNat ⟨#[]⟩).size:Int):=om
  have B:0<=m.kind/\m.kind<16:=om
  simp only[Y.1,Y.2,B.1,B.2,cW,mR,cG,cH,lL];rw[mK i om];have hg:(Arr.get nL m.kind.toNat ⟨#[]⟩).toList=mY m.kind:=rfl;have e:=cQb m _ O hx.1 hx.2 ha;rw[hg];unfold GA at e;split at e
  .rename_i H;rw[cA H];cases hn:oP ((oF (((mY m.kind).getD i 0).toNat:Int) nums).getD bL.zero).of with
   |none=>rw[hn]at e;cases e
   |some k=>rw[hn,eF]at e;rw[eF,e];rfl
  .rename_i H;rw[bX H,e];rfl) (λ O=>by unfold Ii;rw[H,bX (by simp)]) F _ M]
 rfl
def qC(m:aL):Bool:=tG m&&decide (((encM m).length:Int)<=4064)
def GB(m:aL):Df m=some (qC m):=by
 unfold Df qC;rw[cPw,eF];cases h:tG m with
 |false=>rfl
 |true=>rw[cA rfl,QL h];rfl
end Ab
end Go.Proofs.YtfmnjkfhahfhgaaGreatDoor
