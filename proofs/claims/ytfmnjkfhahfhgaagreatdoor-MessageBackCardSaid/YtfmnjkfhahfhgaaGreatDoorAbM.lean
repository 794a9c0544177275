import Derived.Test.YtfmnjkfhahfhgaaGreatDoorAb11
import Derived.MapKept
import Derived.WideKeyRuns
import Derived.Laws.StructEq
import Derived.Maps.RangeRun
namespace Go.Proofs.YtfmnjkfhahfhgaaGreatDoor
namespace Ab
set_option linter.defProp false
set_option linter.unusedSimpArgs false
set_option linter.unusedVariables false
def zF:TypeDesc->A->Bool
 | .string,.str _=>true
 | .int k,.int k' _=>k==k'
 | .bool,.bool _=>true
 |_,_=>false
def keyD(P:Program)(K:TypeId):A->Bool
 | .agg H=>(match sW P 20 K with|some O=>mU O H|none=>false)&&(match P.underlying K with|some d=>aggD d|none=>false)
 |kz=>match P.underlying K with
  |some d=>zF d kz
  |none=>false
def zvOk(P:Program)(T:TypeId)(H:Bool)(z:List A):Bool:=match P.info? T with
 |some i=>(match i.zero with|some (.agg vs)=>H&&zC vs.toList z|some v=>!H&&zC [v] z|none=>false)
 |none=>false
def AR(P:Program)(T:TypeId)(kz:A):Bool:=match P.underlying T with
 |some (.map K _)=>keyD P K kz
 |_=>false
def Mp(P:Program)(T:TypeId)(H:Bool)(z:List A):Bool:=match P.underlying T with
 |some (.map _ E)=>zvOk P E H z
 |_=>false
def ID:TypeDesc->Bool|.map _ _=>true|_=>false
section
variable {P:Program} {o:Oper} {a:Act} {E:Env} {s:S} {w:World} {W:Nat→Prop} {μ:Nat→Loc}
def SatW.mpr(U:SatW E s a w W μ){v:Value}{y:Nat}{r:Row}(K:Rep w W μ v (.mp y))(Y:s.mem y=.row r)(B:r.z≠[]):∃k,μ y=.at_ k/\v=.map (some k.b)/\zA w W r k:=by
 obtain⟨_,H⟩:RepK w W μ v (.mp y):=K;have hm:=U.mem y;rw[Y]at hm;rcases hm with⟨O,_⟩|⟨k,O,F⟩
 .rw[O]at H;exact H.elim
 .rw[O]at H;rcases F.any H.1 with h5|h5
  .exact⟨k,O,H.2,h5⟩
  .exact absurd h5.2.2.2.1 B
def Yr{d:TypeDesc}{kz k c:A}{v u:Value}(U:zF d kz=true)
  (H:pW kz k=true) (O:pW kz c=true) (K:RepY w W v k) (Y:RepY w W u c):Instr.sameNow d v u=some (eqK k c):=by
 cases d<;>cases kz<;>simp only[zF,bZ]at U<;>
  (cases k<;>simp only[pW,key1,bZ]at H)<;>(cases c<;>simp only[pW,key1,bZ]at O)<;>
  (cases K;cases Y)
 all_goals first
  |rfl
  |(simp only[Instr.sameNow,eqK,eq1,beq_toListBytes];done)
  |(simp only[dN]at H O;subst H;subst O;simp[Instr.sameNow,eqK,eq1])
def Qd{kz k c:A}{v u:Value}{n:Nat}(H:key1 kz k=true)(O:key1 kz c=true)(K:RepC w W v k)(U:RepC w W u c)(e:eq1 k c=true):Instr.sameBits n u v=true:=by
 cases kz<;>(cases k<;>simp only[key1,bZ]at H)<;>(cases c<;>simp only[key1,bZ]at O)<;>(cases K;cases U)
 all_goals simp only[eq1,dN]at e H O
 .subst e;cases n<;>simp[Instr.sameBits]
 .subst e;subst H;subst O;cases n<;>simp[Instr.sameBits]
 .cases n<;>simp only[Instr.sameBits,beq_toListBytes,e,kS]
def Qe{n:Nat}:∀{U H O:List A} {vs us:List Value},keyL U H=true->keyL U O=true->vs.length=H.length->us.length=O.length->(∀(i:Nat) (u:Value) (a:A),vs[i]? =some u->H[i]? =some a->RepC w W u a)->
  (∀(i:Nat) (u:Value) (a:A),us[i]? =some u->O[i]? =some a->RepC w W u a)->eqA H O=true->us.length=vs.length/\((us.zip vs).all λ(x,y)=>Instr.sameBits n x y)=true
 |[],[],[],[],[],_,_,_,_,_,_,_=>⟨rfl,rfl⟩
 |z::U,k::H,c::O,v::vs,u::us,K,L,h3,h4,Z,h6,V=>by simp only[keyL,bY]at K L;simp only[eqA,bY]at V;obtain⟨Y,B⟩:=Qe (n:=n) K.2 L.2 (by simpa using h3) (by simpa using h4) (λ i x a p q=>Z (i+1) x a (by simpa using p) (by simpa using q)) (λ i x a p q=>h6 (i+1) x a (by simpa using p) (by simpa using q)) V.2;refine⟨by simp[Y],?_⟩;simp only[List.zip_cons_cons,List.all_cons,bY];exact⟨Qd K.1 L.1 (Z 0 v k rfl rfl) (h6 0 u c rfl rfl) V.1,B⟩
 |[],_::_,_,_,_,h,_,_,_,_,_,_=>by simp[keyL]at h
 |[],[],_::_,_,_,_,h,_,_,_,_,_=>by simp[keyL]at h
 |[],[],[],_::_,_,_,_,h,_,_,_,_=>by simp at h
 |[],[],[],[],_::_,_,_,_,h,_,_,_=>by simp at h
 |_::_,[],_,_,_,h,_,_,_,_,_,_=>by simp[keyL]at h
 |_::_,_::_,[],_,_,_,h,_,_,_,_,_=>by simp[keyL]at h
 |_::_,_::_,_::_,[],_,_,_,h,_,_,_,_=>by simp at h
 |_::_,_::_,_::_,_::_,[],_,_,_,h,_,_,_=>by simp at h
def IE{kz k:A}(h:pW kz k=true):(∃H O,kz=.agg H/\k=.agg O/\keyL H O=true)\/(kz.isAg=false/\k.isAg=false/\key1 kz k=true):=by
 cases kz
 case agg H=>cases k<;>first|(simp only[pW,key1,bZ]at h;done)|exact .inl ⟨_,_,rfl,rfl,h⟩
 all_goals(cases k<;>first|(simp only[pW,key1,bZ]at h;done)|exact .inr ⟨rfl,rfl,h⟩)
def Qf{k:A}(h:k.isAg=false){v:Value}(H:RepY w W v k):RepC w W v k:=by cases k<;>first|exact H|(simp only[A.isAg,reduceCtorEq]at h)
def Ys{k c:A}(h:k.isAg=false):eqK k c=eq1 k c:=by cases k<;>first|rfl|(simp only[A.isAg,reduceCtorEq]at h)
def Yt{kz k c:A}{v u:Value}(O:pW kz k=true)(H:pW kz c=true)(K:RepY w W v k)(B:RepY w W u c)(e:eqK k c=true):Instr.sameBits 10000 u v=true:=by
 rcases IE O with⟨zs,ks,rfl,rfl,O⟩|⟨U,F,O⟩
 .rcases IE H with⟨Y,M,L,rfl,H⟩|⟨U,_,_⟩
  .cases L;obtain⟨vs,rfl,V,Z⟩:=K;obtain⟨us,rfl,l2,r2⟩:=B;obtain⟨i1,i2⟩:=Qe (n:=9999) O H V l2 Z r2 e;simp only[Instr.sameBits,iG,i1,kS,cN];exact i2
  .cases U
 .rcases IE H with⟨Y,M,rfl,_,_⟩|⟨_,n2,H⟩
  .cases U
  .rw[Ys F]at e;exact Qd O H (Qf F K) (Qf n2 B) e
def Yu(b:Bool)(d:Nat):∀(T:TypeId) (Y:List LK),sW P d T=some Y->∀(D:Nat),d<=D->∀(us:List Value),us.length=Y.length->(Instr.checkKey b D T (rV P T us)).run P w=.ok () w:=by
 induction d with
 |zero=>intro T Y h;simp[sW]at h
 |succ d ih=>
  intro T Y h D hD us K;obtain⟨F,rfl⟩:∃F,D=F+1:=⟨D-1,by omega⟩;unfold sW at h;split at h
  .rename_i O;unfold Instr.checkKey;simp only[qc,run_underlying O,Oc];rfl
  .rename_i k O;unfold Instr.checkKey;simp only[qc,run_underlying O,Oc];rfl
  .rename_i O;unfold Instr.checkKey;simp only[qc,run_underlying O,Oc];rfl
  .rename_i fs O;split at h
   .cases h
   .have L:rV P T us=.agg us.toArray:=by simp[rV,O,aggD]
    rw[L];unfold Instr.checkKey;simp only[qc,run_underlying O,Oc];rw[<-Array.forIn_toList];have hb:0+Y.length<=us.length:=om
    clear K
    generalize(0:Nat)=off at h hb;generalize fs.toList=gs at h⊢;induction gs generalizing off Y with
    |nil=>simp
    |cons g gs M=>
     unfold CV at h;split at h
     .rename_i hg;simp only[bY,dN,bne_iff_ne]at hg;obtain⟨V,Z⟩:=hg;split at h
      .rename_i U B;split at h
       .rename_i H;split at h
        .rename_i r hr;cases h;obtain⟨t,ht,y0⟩:=Mm B;simp only[bY,dA,kF]at H;obtain⟨H,z0⟩:=H;rw[cA]at hb;have p1:=Mn (w:=w) ht H y0 us (off:=off) om;have q:=ih g.type U B F om ((us.drop off).take U.length) (by simp;omega);have r2:=M r (off+U.length) om hr;simp only[List.forIn_cons,qc,Z,ne_eq,iH,cH,V,p1,Oc,q,Qc];exact r2
        .cases h
       .cases h
      .cases h
     .cases h
  .cases h
def IF:∀{H:List LK} {O U:List A},mU H O=true->keyL O U=true->mU H U=true
 |[],[],[],_,_=>rfl
 |k::H,z::O,c::U,K,L=>by
  simp only[mU,keyL,bY]at K L⊢;refine⟨?_,IF K.2 L.2⟩;cases k<;>(cases z<;>simp only[LK.fits,bZ,iT]at K)<;>(cases c<;>simp only[key1,bZ,iT]at L)
  .rfl
  .simp only[LK.fits,dN]at K L⊢;rw[K.1,L.1]
  .rfl
 |[],_::_,_,h,_=>by simp[mU]at h
 |_::_,[],_,h,_=>by simp[mU]at h
 |[],[],_::_,_,h=>by simp[keyL]at h
 |_::_,_::_,[],_,h=>by simp[keyL]at h
def Mq{K:TypeId}{Y:List A}(hK:keyD P K (.agg Y)=true):∃H d,sW P 20 K=some H/\mU H Y=true/\P.underlying K=some d/\aggD d=true:=by
 unfold keyD at hK;rw[bY]at hK;obtain⟨O,U⟩:=hK;split at O
 .rename_i H B;split at U
  .rename_i d F;exact⟨H,d,B,O,F,U⟩
  .cases U
 .cases O
def Qg{K:TypeId}{kz:A}(H:kz.isAg=false)(hK:keyD P K kz=true):∃d,P.underlying K=some d/\zF d kz=true:=by
 have:(match P.underlying K with|some d=>zF d kz|none=>false)=true:=by cases kz<;>first|exact hK|(simp only[A.isAg,reduceCtorEq]at H)
 split at this
 .rename_i d O;exact⟨d,O,this⟩
 .cases this
def Mr{K:TypeId}{kz k:A}{v:Value}(hK:keyD P K kz=true)(H:pW kz k=true)(L:RepY w W v k)(b:Bool):(Instr.checkKey b 10000 K v).run P w=.ok () w:=by
 rcases IE H with⟨zs,cs,rfl,rfl,H⟩|⟨O,n1,H⟩
 .obtain⟨U,d,Y,B,F,M⟩:=Mq hK;obtain⟨vs,rfl,V,_⟩:=L;have Z:=IF B H;have:=Yu (P:=P) (w:=w) b 20 K U Y 10000 om vs (by rw[V];exact p8 Z);rwa [show rV P K vs=.agg vs.toArray by simp[rV,F,M]]at this
 .obtain⟨d,hu,hd⟩:=Qg O hK;unfold Instr.checkKey;simp only[qc,run_underlying hu,Oc];cases d<;>(cases kz<;>simp only[zF,bZ]at hd)<;>rfl
def Ms{z:List A}{kz k:A}{v:Value}(hz:z.headD .any=kz)
  (L:pW kz k=true) (Z:RepY w W v k) {K:TypeId} (hK:keyD P K kz=true):∀(es:List MapEntry) (U:List (List A)) (n:Nat),es.length=U.length->(∀(i:Nat) (e:MapEntry) (c:List A),es[i]? =some e->U[i]? =some c->sV w W z (n+i) e c)->
  (rJ k U=none/\((∀d,zF d kz=true->Instr.findNow d v es n=some none)/\(kz.isAg=true->(Instr.findAsking K v es n).run P w=.ok none w))/\∀x,mins k x U=U++[k::x])\/
  ∃(i:Nat) (e:MapEntry) (c:List A),es[i]? =some e/\U[i]? =some c/\rJ k U=some c.tail/\((∀d,zF d kz=true->Instr.findNow d v es n=some (some (n+i,e.val)))/\(kz.isAg=true->(Instr.findAsking K v es n).run P w=.ok (some (n+i,e.val)) w))/\eqK k (c.headD .any)=true/\∀x,mins k x U=U.set i (k::x)
 |[],[],n,_,_=>.inl ⟨rfl,⟨λ _ _=>rfl,λ _=>by simp[Instr.findAsking]⟩,λ _=>rfl⟩
 |e::es,c::U,n,hl,h=>by
  obtain⟨_,kk,vc,ag,rfl,_,V,h5,_⟩:=h 0 e c rfl rfl;rw[hz]at V;have M:=λ d B=>Yr (d:=d) B L V Z h5;have Y:kz.isAg=true->(Op.equal K v e.key).run P w=.ok (eqK k kk) w:=λ H=>by cases kz<;>simp only[A.isAg,bZ]at H;cases k<;>simp only[pW,key1,bZ]at L;cases kk<;>simp only[pW,key1,bZ]at V;rename_i zs ks x0;obtain⟨h0,d,g1,g2,g3,g4⟩:=Mq hK;obtain⟨vs,rfl,l1,r1⟩:=Z;obtain⟨us,y0,l2,r2⟩:=h5;rw[y0];have:=Qb (P:=P) (w:=w) (W:=W) (μ:=λ _=>.fresh) 20 K h0 g1 10000 om vs us ks x0 (IF g2 L) (IF g2 V) ⟨l1,λ i u a p q=>nN (r1 i u a p q)⟩ ⟨l2,λ i u a p q=>nN (r2 i u a p q)⟩;rw[show rV P K vs=.agg vs.toArray by simp[rV,g3,g4],show rV P K us=.agg us.toArray by simp[rV,g3,g4]]at this;exact this
  by_cases O:eqK k kk=true
  .refine .inr ⟨0,e,kk::vc,rfl,rfl,by simp[rJ,O],⟨λ d B=>?_,λ H=>?_⟩,O,λ x=>by simp[mins,O]⟩
   .simp only[Instr.findNow,M d B,O,Nat.add_zero]
   .simp only[Instr.findAsking,qc,Y H,O,Oc,cH,Qc,Nat.add_zero]
  .have F:eqK k kk=false:=by simpa using O
   rcases Ms hz L Z hK es U (n+1) (by simpa using hl) (λ i e' c' x y=>by
    have:=h (i+1) e' c' (by simpa using x) (by simpa using y);rw[show n+1+i=n+(i+1)by omega];exact this)with⟨k1,⟨k2,k2'⟩,k3⟩|⟨i,e',c',k1,k2,k3,⟨k4,k4'⟩,k5,k6⟩
   .exact .inl ⟨by simp[rJ,F,k1],⟨λ d B=>by simp only[Instr.findNow,M d B,F,k2 d B],λ H=>by simp only[Instr.findAsking,qc,Y H,F,Oc,bZ,cI,k2' H]⟩,λ x=>by simp[mins,F,k3]⟩
   .exact .inr ⟨i+1,e',c',by simpa using k1,by simpa using k2,by simp[rJ,F,k3],⟨λ d B=>by simp only[Instr.findNow,M d B,F,k4 d B];rw[show n+1+i=n+(i+1)by omega],λ H=>by simp only[Instr.findAsking,qc,Y H,F,Oc,bZ,cI,k4' H];rw[show n+1+i=n+(i+1)by omega]⟩,k5,λ x=>by simp[mins,F,k6]⟩
 |[],_::_,_,h,_=>by simp at h
 |_::_,[],_,h,_=>by simp at h
def IG{K:TypeId}{kz:A}(hK:keyD P K kz=true){v:Value}{es:List MapEntry}{r:Option (Nat×Value)}(h:(∀d,zF d kz=true->Instr.findNow d v es 0=some r)/\(kz.isAg=true->(Instr.findAsking K v es 0).run P w=.ok r w)):
  (Instr.findKey K v es).run P w=.ok r w:=by
 cases L:kz.isAg with
 |true=>
  obtain⟨H,rfl⟩:∃H,kz=.agg H:=by cases kz<;>first|exact⟨_,rfl⟩|(simp only[A.isAg,reduceCtorEq]at L)
  obtain⟨F,d,_,_,O,U⟩:=Mq hK;rw[run_findKey_eq w (by rw[O];cases d<;>simp only[aggD,bZ]at U<;>rfl)];exact h.2 L
 |false=>obtain⟨d,Y,B⟩:=Qg L hK;simp only[Instr.findKey,qc,run_underlying Y,Oc,h.1 d B,Qc]
def Yv{T:TypeId}{O:Bool}{z:List A}(h:zvOk P T O z=true):∃v,(∀w,(zeroValue T).run P w=.ok v w)/\∀(w:World) (W:Nat->Prop),RepX w W O v z:=by
 unfold zvOk at h;split at h
 .rename_i i K;split at h
  .rename_i vs H;simp only[bY]at h;obtain⟨rfl,h⟩:=h;refine⟨.agg vs,λ w=>by simp[zeroValue,typeInfo,K,H],λ w W=>?_⟩;have:=CR (w:=w) (W:=W) h;unfold RepX;rw[cB rfl];exact⟨vs.toList,by simp,this.1,this.2⟩
  .rename_i v _ H;simp only[bY,dA]at h;obtain⟨rfl,h⟩:=h;refine⟨v,λ w=>by simp[zeroValue,typeInfo,K,H],λ w W=>?_⟩;have:=CR (w:=w) (W:=W) h;unfold RepX;rw[bX Om]
   match z,this with
   |[b],this=>exact⟨b,rfl,this.2 0 v b rfl rfl⟩
   |[],this=>simp at this
   |_::_::_,this=>simp at this
  .cases h
 .cases h
def Mt{O:Bool}{v:Value}{H:List A}(h:RepX w W O v H):RepV w W μ v (tV O H):=by
 unfold RepX at h;cases O with
 |true=>obtain⟨vs,rfl,U,Y⟩:=(by simpa using h:∃vs:List Value,v=.agg vs.toArray/\vs.length=H.length/\∀(i:Nat) (u:Value) (a:A),vs[i]? =some u->H[i]? =some a->RepC w W u a);exact⟨vs,rfl,U,λ i u b x y=>nN (Y i u b x y)⟩
 |false=>obtain⟨b,rfl,U⟩:=(by simpa using h:∃b,H=[b]/\RepC w W v b);exact nL (nN U)
def Yw{y:Nat}{k:Blk}(h:μ y=.at_ k)(H:k.sz=0):Rep w W μ (.map (some k.b)) (.mp y):=by refine(show RepK w W μ _ (.mp y)from⟨rfl,?_⟩);rw[h];exact⟨H,rfl⟩
def Yx(H:SatW E s a w W μ){T:TypeId}{z:List A}{id:Nat}(ho:o.op=.makeMap T none)(O:s.mem id=.fresh):
  mN P o a w W μ s.mem (.mp id) (setM s.mem [(id,.row ⟨false,0,z,[]⟩)]):=by
 have U:=Step.newMap (w':=w.alloc (.map #[] 0)) H.mem H.inj H.wlt O (z:=z) (AN _ _) (by simpa using heap_alloc_new w _);refine⟨_,.map (some w.heap.size),_,_,_,?_,.inl rfl,?_,U⟩
 .simp[execOp,ho,Instr.makeMap,newObj,Sem.run]
 .exact Yw (k:=⟨w.heap.size,0,0⟩) (by simp) rfl
def Yy{kz k:A}{v:Value}(H:pW kz k=true)(U:o8 k.cells=true)(O:Rep w W μ v k):RepY w W v k:=by
 cases k
 case agg cs=>obtain⟨vs,Y,B,F⟩:RepV w W μ v (.agg cs):=O;exact⟨vs,Y,B,λ i u a p q=>(F i u a p q).toC (Mo U a (cV q))⟩
 all_goals(cases kz<;>simp only[pW,key1,bZ]at H)<;>exact O
def Qh:∀{O H:List A},keyL O H=true->o8 H=true
 |[],[],_=>rfl
 |z::O,c::H,h=>by simp only[keyL,bY]at h;simp only[o8,bY];refine⟨?_,Qh h.2⟩;cases z<;>(cases c<;>simp only[key1,bZ,iT]at h)<;>rfl
 |[],_::_,h=>by simp[keyL]at h
 |_::_,[],h=>by simp[keyL]at h
def Qi{kz k:A}{v:Value}(H:pW kz k=true)(O:Rep w W μ v k):RepY w W v k:=by refine Yy H ?_ O;cases kz<;>(cases k<;>simp only[pW,key1,bZ]at H)<;>first|rfl|exact Qh H
def Yz(hs:SatW E s a w W μ){T:TypeId}{x i:Operand}{ok H:Bool}{kz:A}{z:List A}{y:Nat}{k:A}{r:Row}(ho:o.op=.lookup T x i ok)(U:AR P T kz=true)(Z:Mp P T H z=true)
  (hx:Rep w W μ (a.eval x) (.mp y)) (hk:Rep w W μ (a.eval i) k) (hr:s.mem y=.row r) (hz:r.z=[kz,.bool H]) (Y:pW kz k=true):
  mN P o a w W μ s.mem (if ok then .tup [mval H z (rJ k r.es),.bool (rJ k r.es).isSome]else mval H z (rJ k r.es)) s.mem:=by
 obtain⟨kb,h1,h2,_,_,_,es,h3,h4,h5⟩:=hs.mpr hx hr (by rw[hz];exactλ h=>nomatch h);unfold AR at U;unfold Mp at Z;split at U
 .rename_i K El hu;rw[hu]at Z;have B:=Qi Y hk;obtain⟨zv,h0,x0⟩:=Yv (P:=P) Z;have O:∀(i:Nat) (e:MapEntry) (c:List A),es.toList[i]? =some e->r.es[i]? =some c->sV w W r.z (0+i) e c:=λ i e c p q=>by rw[eC];exact h5 i e c (by simpa using p) q
  have F:∀(v:Value) (b:Bool) (M:Option (Nat×Value)),(Instr.findKey K (a.eval i) es.toList).run P w=.ok M w->(M=none/\v=zv/\b=false\/∃n,M=some (n,v)/\b=true)->RepV w W μ v (mval H z (rJ k r.es))->b=(rJ k r.es).isSome->
    mN P o a w W μ s.mem (if ok then .tup [mval H z (rJ k r.es),.bool (rJ k r.es).isSome]else mval H z (rJ k r.es)) s.mem:=λ v b M g1 g2 g3 g4=>by
   refine hs.still (v:=if ok then .tuple #[v,.bool b]else v) ?_ ?_
   .simp only[execOp,ho,h2,Instr.lookup,qc,run_underlying hu,Oc,iF h3,Qc,Mr U Y B,g1];rcases g2 with⟨rfl,rfl,rfl⟩|⟨n,rfl,rfl⟩<;>cases ok<;>simp[h0]
   .cases ok with
    |false=>exact nG g3
    |true=>
     refine⟨[v,.bool b],rfl,rfl,λ i u c p q=>?_⟩
     match i with
     |0=>simp at p q;subst p;subst q;exact g3
     |1=>simp at p q;subst p;subst q;rw[g4];exact RepC.bool _
     |n+2=>simp at p
  rcases Ms (w:=w) (W:=W) (z:=r.z) (kz:=kz) (k:=k) (v:=a.eval i) (by rw[hz];rfl) Y B U es.toList r.es 0 (by simpa using h4) O with⟨L,V,_⟩|⟨j,e,c,k0,L,V,k3,_⟩
  .exact F zv false none (IG U V) (.inl ⟨rfl,rfl,rfl⟩) (by rw[L];exact Mt (x0 w W)) (by rw[L];rfl)
  .obtain⟨_,kk,cs,y0,rfl,e4,_,_,e5⟩:=O j e c k0 L;have:y0=H:=by rw[hz]at e4;simpa using e4.symm
   subst this;exact F e.val true (some (0+j,e.val)) (IG U k3) (.inr ⟨_,rfl,rfl⟩) (by rw[V];exact Mt e5) (by rw[V];rfl)
 .cases U
def YA(w:World)(g:Nat)(H:Obj):Keeps (λ b=>b=g) w {w with heap:=w.heap.setIfInBounds g H}:=
 ⟨rfl,rfl,rfl,dG _,by simp,λ b _ hb=>by simp[iM (kY hb)]⟩
def YB{v:A}{u:Value}(O:Rep w W μ u v)(K:v.isV=true)(U:tX [v.cells]):RepX w W v.isAg u v.cells:=by
 have H:∀(a:A) (x:Value),a∈v.cells->RepK w W μ x a->RepC w W x a:=λ a x L V=>by have:=U _ (dP.2 rfl) a L;exact V.toC this
 unfold RepX;cases v<;>simp only[A.isV,bZ]at K<;>simp only[A.isAg,A.cells,cH,bZ,cI]at H|-
 case agg cs=>obtain⟨vs,Y,B,F⟩:RepV w W μ u (.agg cs):=O;exact⟨vs,Y,B,λ i x b p q=>H b x (cV q) (F i x b p q)⟩
 all_goals exact⟨_,rfl,H _ u (dP.2 rfl) O⟩
def YC(Z:SatW E s a w W μ){T:TypeId}{x i q:Operand}{ag:Bool}{kz:A}{y:Nat}{k v:A}{r:Row}(ho:o.op=.mapUpdate T x i q\/o.op=.insert T x i q)(Y:AR P T kz=true)
  (hx:Rep w W μ (a.eval x) (.mp y)) (hk:Rep w W μ (a.eval i) k) (hv:Rep w W μ (a.eval q) v) (hr:s.mem y=.row r) (x0:r.ro=false) (M:r.z=[kz,.bool ag]) (O:pW kz k=true)
  (hV:v.isV=true) (y0:v.isAg=ag) (hp:tX [v.cells]):
  mN P o a w W μ s.mem .any (setM s.mem [(y,.row ⟨false,0,r.z,mins k v.cells r.es⟩)]):=by
 obtain⟨kb,h1,h2,h6,h7,h8,es,L,h4,h5⟩:=Z.mpr hx hr (by rw[M];exactλ h=>nomatch h);unfold AR at Y;split at Y
 .rename_i K El hu;have U:=Qi O hk;have z0:=YB hv hV hp;have B:∀(i:Nat) (e:MapEntry) (c:List A),es.toList[i]? =some e->r.es[i]? =some c->sV w W r.z (0+i) e c:=λ i e c p q=>by rw[eC];exact h5 i e c (by simpa using p) q
  have F:∀n,sV w W r.z n ⟨a.eval i,a.eval q,n⟩ (k::v.cells):=λ n=>⟨rfl,k,v.cells,ag,rfl,by rw[M];rfl,by rw[M];exact O,U,y0▸z0⟩;have h0:∀(H:Array MapEntry),H.size=(mins k v.cells r.es).length->(∀(i:Nat) (e:MapEntry) (c:List A),H[i]? =some e->(mins k v.cells r.es)[i]? =some c->sV w W r.z i e c)->
    (Instr.mapUpdate T (a.eval x) (a.eval i) (a.eval q)).run P w=.ok () {w with heap:=w.heap.setIfInBounds kb.b (.map H H.size)}->mN P o a w W μ s.mem .any (setM s.mem [(y,.row ⟨false,0,r.z,mins k v.cells r.es⟩)]):=λ H g1 g2 g3=>by
   refine⟨.skip,undef,{w with heap:=w.heap.setIfInBounds kb.b (.map H H.size)},W,μ,?_,.inr ⟨rfl,rfl⟩,trivial,Step.writeMap Z.mem Z.inj Z.wlt h1 hr x0 h8 rfl rfl (YA _ _ _) ?_ g1 g2⟩
   .rcases ho with ho|ho<;>simp only[execOp,ho,qc,g3,Oc,Qc]
   .simp[(cU.1 L).1]
  rcases Ms (w:=w) (W:=W) (z:=r.z) (kz:=kz) (k:=k) (v:=a.eval i) (by rw[M];rfl) O U Y es.toList r.es 0 (by simpa using h4) B with⟨k1,k2,k3⟩|⟨j,e,c,k0,k1,k2,k3,k4,k5⟩
  .refine h0 (es.push ⟨a.eval i,a.eval q,es.size⟩) (by rw[k3];simp[h4]) (λ n e c p q=>?_) ?_
   .rw[k3]at q;rw[Array.getElem?_push]at p;split at p
    .rename_i V;cases p;subst V;rw[h4,fH (dG _),gY]at q;simp at q;subst q;exact F _
    .have hlt:=(cU.1 p).1;rw[dX om]at q;exact h5 n e c p q
   .rw[h2];simp only[Instr.mapUpdate,qc,run_underlying hu,Oc,iF L,Mr Y O U,IG Y k2,kG _ L,Array.size_push]
  .obtain⟨hb,kk,cs,v0,rfl,e4,e6,e7,e5⟩:=B j e c k0 k1;simp only[List.headD_cons]at k4;have hj:es[j]? =some e:=by simpa using k0
   have p0:=(cU.1 hj).1;rw[M]at e6;have u0:=Yt (w:=w) (W:=W) O e6 U e7 k4;refine h0 (es.modify j λ e'=>{e' with key:=a.eval i,val:=a.eval q}) (by rw[k5];simp[h4]) (λ n e' c' p q'=>?_) ?_
   .rw[k5]at q';rw[jP]at p
    by_cases V:j=n
    .subst V;rw[cB rfl,hj]at p;simp only[xm,cJ]at p;subst p;rw[lQ om]at q';cases q';have:=F e.born;rw[hb,eC]at this⊢;exact this
    .rw[bX V]at p;rw[lS V]at q';exact h5 n e' c' p q'
   .rw[h2];simp only[Instr.mapUpdate,qc,run_underlying hu,Oc,iF L,Mr Y O U,IG Y k3,eC,hj,xm,Xm,Instr.keyThatStays,u0,cH,Qc,kG _ L,Array.size_modify]
 .cases Y
def YD(U:SatW E s a w W μ){x:Operand}{t:TypeId}{H:Array TypeId}{y:Nat}{r:Row}(ho:o.op=.call {callee:=.builtin .len,args:=#[x],argTypes:=H})(O:H[0]? =some t)
  (L:∃K Y,P.underlying t=some (.map K Y)) (V:Rep w W μ (a.eval x) (.mp y)) (B:s.mem y=.row r) (F:r.z≠[]):mN P o a w W μ s.mem (.int .i64 r.es.length) s.mem:=by
 obtain⟨kb,h1,M,_,_,_,es,Z,h4,_⟩:=U.mpr V B F;obtain⟨K,Y,hu⟩:=L;refine U.still (v:=goInt es.size) ?_ (by rw[<-h4];exact qW (.int _ _));have h5:(Builtin.len_ H o.type #[a.eval x]).run P w=.ok (goInt es.size) w:=by simp[Builtin.len_,O,M,run_underlying hu,iF Z]
 simp[execOp,ho,resolve,invoke,builtin,h5]
def SatW.itr(hs:SatW E s a w W μ){v:Value}{x y c:Nat}{rest:List (List A)}{r:Row}(hx:Rep w W μ v (.it x))(hr:s.mem x=.row r)(Y:r.es=[.mp y,.int .i64 c]::rest):
  ∃(k:Blk) (b:Nat) (H:List Nat),μ x=.at_ k/\v=.pointer (some ⟨k.b,0,none⟩)/\(r.ro=false->W k.b)/\k.sz=0/\r.sz=0/\r.z=[]/\rest=H.map iE/\RepP w W μ (.map (some b)) (.mp y)/\w.heap[k.b]? =some (.mapIter (some b) c H.toArray c):=by
 obtain⟨_,O⟩:RepK w W μ v (.it x):=hx;have hm:=hs.mem x;rw[hr]at hm;rcases hm with⟨U,_⟩|⟨k,U,h4⟩
 .rw[U]at O;exact O.elim
 .rw[U]at O;rcases h4.any O.1 with⟨_,_,_,es,L,V,B⟩|⟨L,V,B,hz,y',b,c',H,F,h9,M⟩
  .exfalso;have hi:0<es.size:=by rw[V,Y];simp
   obtain⟨_,kk,cs,ag,Z,_,_,K,_⟩:=B 0 es[0] _ (fJ hi) (by rw[Y];rfl);simp only[gK]at Z;rw[<-Z.1]at K;generalize es[0].key=u at K;cases K
  .rw[Y]at F;simp only[gK,A.mp.injEq,A.int.injEq,gG,jF]at F;obtain⟨⟨rfl,x0⟩,h0⟩:=F;have:c=c':=om
   subst this;exact⟨k,b,H,U,O.2,L,O.1,B,hz,h0,h9,M⟩
def YE{y:Nat}{k:Blk}(h:μ y=.at_ k)(H:k.sz=0):Rep w W μ (.pointer (some ⟨k.b,0,none⟩)) (.it y):=by refine(show RepK w W μ _ (.it y)from⟨rfl,?_⟩);rw[h];exact⟨H,rfl⟩
def YF(H:SatW E s a w W μ){x:Operand}{t:TypeId}{y id:Nat}{r:Row}(ho:o.op=.range t x)(ht:∃K B,P.underlying t=some (.map K B))(L:Rep w W μ (a.eval x) (.mp y))(Y:s.mem y=.row r)(hz:r.z≠[])(O:s.mem id=.fresh):
  mN P o a w W μ s.mem (.it id) (setM s.mem [(id,.row ⟨false,0,[],[[.mp y,.int .i64 r.es.length]]⟩)]):=by
 obtain⟨kb,V,h2,_,_,h6,es,Z,h4,_⟩:=H.mpr L Y hz;obtain⟨K,B,hu⟩:=ht;have hlt:kb.b<w.heap.size:=(cU.1 Z).1;have hy:id≠y:=λ e=>by subst e;rw[O]at Y;cases Y
 have U:(w.alloc (.mapIter (some kb.b) es.size #[] es.size)).heap[w.heap.size]? =some (.mapIter (some kb.b) es.size #[] es.size):=by simpa using heap_alloc_new w _
 have F:kb.sz=0:=by have:=(H.mem y);rw[Y]at this;obtain⟨_,hk⟩:RepK w W μ _ (.mp y):=L;rw[V]at hk;exact hk.1
 have M:=Step.newAny (w':=w.alloc (.mapIter (some kb.b) es.size #[] es.size)) H.mem H.inj H.wlt O (r:=⟨false,0,[],[[.mp y,.int .i64 r.es.length]]⟩) (AN _ _) (cU.1 U).1
  (.inr (.inr ⟨λ _=>.inr rfl,rfl,rfl,rfl,y,kb.b,es.size,[],by rw[h4];rfl,⟨rfl,by simp only[bX (kY hy),V];exact⟨F,trivial⟩⟩,U⟩))
 refine⟨_,.pointer (some ⟨w.heap.size,0,none⟩),_,_,_,?_,.inl rfl,?_,M⟩
 .simp only[execOp,ho,h2,qc,run_range_map w t K B kb.b es es.size hu Z,Oc,Qc]
 .exact YE (k:=⟨w.heap.size,0,0⟩) (by simp) rfl
def Qj{r:Row}{k:Blk}{es:Array MapEntry}(U:es.size=r.es.length)(O:∀(i:Nat) (e:MapEntry) (c:List A),es[i]? =some e->r.es[i]? =some c->sV w W r.z i e c):∀i (hi:i<es.size),es[i].born=i:=λ i hi=>by
 have H:i<r.es.length:=om
 exact(O i es[i] r.es[i] (fJ hi) (cE H)).1
def YG{es:Array MapEntry}(h:∀i (hi:i<es.size),es[i].born=i):(es.toList.map (·.born)).Nodup:=by
 have:es.toList.map (·.born)=List.range es.size:=by
  apply kT
  .simp
  .intro i H O;simp only[dM,Array.length_toList]at H;simp[h i H]
 rw[this];exact jU
def YH{v:Value}{k:A}(h:RepY w W v k):RepV w W μ v k:=by
 cases k
 case agg cs=>obtain⟨vs,H,O,U⟩:=h;exact⟨vs,H,O,λ i u b x y=>nN (U i u b x y)⟩
 all_goals exact nL (nN h)
def Qk{z c:List A}{e:MapEntry}{i:Nat}(h:sV w W z i e c):∀(j:Nat) (u:Value) (b:A),[e.key,e.val][j]? =some u->(mEnt z c)[j]? =some b->RepV w W μ u b:=by
 obtain⟨_,k,F,M,rfl,U,_,Y,B⟩:=h;intro j u b H O;rw[U]at O
 match j with
 |0=>simp[mEnt]at H O;subst H;subst O;exact YH Y
 |1=>simp[mEnt]at H O;subst H;subst O;exact Mt B
 |n+2=>simp at H
def YI(V:SatW E s a w W μ){x:Operand}{X y i:Nat}{r q:Row}(ho:o.op=.entry x)(hx:Rep w W μ (a.eval x) (.it X))(hr:s.mem X=.row r)(hi:FA r.es=some (y,i))(hq:s.mem y=.row q)
  (F:r.es.head? =some [.mp y,.int .i64 q.es.length]) (hz:q.z≠[]) (h0:i<q.es.length) (d:List A):mN P o a w W μ s.mem (.tup (mEnt q.z (q.es.getD i d))) s.mem:=by
 obtain⟨H,he⟩:∃H,r.es=[.mp y,.int .i64 q.es.length]::H:=by
  cases K:r.es with
  |nil=>rw[K]at F;simp at F
  |cons c H=>rw[K]at F;simp at F;exact⟨H,by rw[F]⟩
 obtain⟨k,b,U,h1,h2,_,_,_,_,h5,h6,h7⟩:=V.itr hx hr he;obtain⟨kb,g1,g2,_,_,_,es,g3,g4,g5⟩:=V.mpr (v:=.map (some b)) (nG (nL h6.toK)) hq hz;cases g2;rw[he,h5]at hi;simp only[FA,List.head?_cons,List.tail_cons,List.getLast?_map]at hi;cases Z:U.getLast? with
 |none=>rw[Z]at hi;simp at hi
 |some O=>
  rw[Z]at hi;simp[iE]at hi;subst hi;have Y:O<es.size:=om
  have hb:=Qj (k:=kb) g4 g5;obtain⟨L,x0⟩:∃L,U=L++[O]:=List.getLast?_eq_some_iff.1 Z;have B:U.toArray=L.toArray.push es[O].born:=by rw[x0,hb O Y];simp
  have M:=run_entry_at (P:=P) w k.b kb.b q.es.length L.toArray es es.size es[O] (by rw[<-B,h7,g4]) g3 (by simp) (YG hb);refine V.still (v:=.tuple #[es[O].key,es[O].val]) (by simp only[execOp,ho,h2,qc,M,Oc,Qc]) ?_;refine⟨[es[O].key,es[O].val],rfl,rfl,Qk (i:=O) (g5 O es[O] (q.es.getD O d) (fJ Y) ?_)⟩;rw[cD,cE h0];rfl
def entQ(d:List A)(m:Nat->MS)(K:A->List (Nat×MS)->Prop):List A->Prop
 |[.it x]=>match m x with
  | .row r=>match FA r.es with
   |some (y,i)=>match m y with
    | .row q=>r.es.head? =some [.mp y,.int .i64 q.es.length]/\q.z≠[]/\i<q.es.length/\K (.tup (mEnt q.z (q.es.getD i d))) []
    |_=>False
   |none=>False
  |_=>False
 |_=>False
structure Both (p q:Prop):Prop where
 fst:p
 snd:q
def nxtQ(d:List A)(m:Nat->MS)(K:A->List (Nat×MS)->Prop):List A->Prop
 |[.it x]=>match m x with
  | .row r=>match r.es with
   |[.mp y,.int .i64 c]::seen=>match m y with
    | .row q=>r.ro=false/\q.z≠[]/\c=q.es.length/\
      Both (∀i:Nat,i<q.es.length->iE i∉seen->K (.tup (.bool true::mEnt q.z (q.es.getD i d))) [(x,.row ⟨false,0,[],[.mp y,.int .i64 c]::(seen++[iE i])⟩)])
      ((∀i:Nat,i<q.es.length->iE i∈seen)->K (.tup [.bool false]) [])
    |_=>False
   |_=>False
  |_=>False
 |_=>False
def YJ(Z:SatW E s a w W μ){x:Operand}{av:A}{K:A->List (Nat×MS)->Prop}(ho:o.op=.next x false)(hx:Rep w W μ (a.eval x) av){d:List A}(h:nxtQ d s.mem K [av]):
  ∃v mw,K v mw/\(∀q∈mw,∃r,q.2=.row r/\∃r',s.mem q.1=.row r')/\mN P o a w W μ s.mem v (setM s.mem mw):=by
 cases av<;>simp only[nxtQ]at h;rename_i X;split at h
 .rename_i r hr;split at h
  .rename_i y c U he;split at h
   .rename_i q hq;obtain⟨x0,hz,hc,⟨h1,h2⟩⟩:=h;obtain⟨n,rfl⟩:∃n:Nat,c=n:=⟨q.es.length,hc⟩;have hn:n=q.es.length:=om
    subst hn;obtain⟨k,b,O,e1,e2,eW,e0,e3,e4,e5,e6,e7⟩:=Z.itr hx hr he;obtain⟨kb,g1,g2,_,_,_,es,g3,g4,g5⟩:=Z.mpr (v:=.map (some b)) (nG (nL e6.toK)) hq hz;cases g2;have hb:=Qj (k:=kb) g4 g5;have H:∀i:Nat,iE i∈U↔i∈O:=λ i=>by
     rw[e5];simp only[iE,cS,gK,A.int.injEq,gG,jF];constructor
     .rintro⟨j,hj,t0⟩;have:j=i:=om
      exact this▸hj
     .intro L;exact⟨i,L,rfl⟩
    have y0:∀x∈es.toList,x.born<q.es.length:=λ x hx=>by obtain⟨i,L,rfl⟩:=gJ hx;simp only[Array.length_toList]at L;simp only[Array.getElem_toList,hb i L];omega
    have v0:w.heap[k.b]? =some (.mapIter (some kb.b) q.es.length O.toArray q.es.length):=e7;rcases run_next_at (P:=P) w o.type k.b kb.b q.es.length q.es.length O.toArray es es.size v0 g3 y0 (dG _)with⟨l1,V⟩|⟨e,l1,Y,V,l3⟩
    .refine⟨_,_,h2 λ i L=>(H i).2 ?_,(λ q hq=>nomatch hq),Z.still (v:=.tuple #[.bool false]) (by simp only[execOp,ho,e2,qc,V,Oc,Qc]) ?_⟩
     .have p0:i<es.size:=om
      have:es[i]∉(leftOf es O.toArray).toList:=by have:(leftOf es O.toArray)=#[]:=Array.eq_empty_of_size_eq_zero l1;rw[this];simp
      unfold leftOf at this;simp[hb i p0]at this;exact this
     .exact⟨[.bool false],rfl,rfl,λ j u b B h4=>by
       match j with
       |0=>simp at B h4;subst B;subst h4;exact RepC.bool _
       |n+1=>simp at B⟩
    .obtain⟨m1,m2⟩:=mem_left l1;obtain⟨i,L,rfl⟩:=gJ m1;simp only[Array.length_toList]at L;simp only[Array.getElem_toList]at l3 m2;rw[hb i L]at l3 m2;have q0:i∉O:=by simpa using m2
     refine⟨_,_,h1 i om (λ hh=>q0 ((H i).1 hh)),(λ q' z0=>by simp at z0;subst z0;exact⟨_,rfl,r,hr⟩),?_⟩;have hlt:=(cU.1 e7).1;have F:Y.heap=w.heap:=by rcases V with h|h<;>rw[h]<;>rfl
     have M:Keeps (λ b=>b=k.b) w (ChangeMaps.setBlock Y k.b (.mapIter (some kb.b) q.es.length (O.toArray.push i) es.size)):=by
      refine⟨?_,?_,?_,?_,?_,λ b hb r0=>?_⟩
      .rcases V with h|h<;>rw[h]<;>rfl
      .rcases V with h|h<;>rw[h]<;>rfl
      .rcases V with h|h<;>rw[h]<;>rfl
      .rcases V with h|h<;>rw[h]
       .exact dG _
       .exact kK _
      .rw[show(ChangeMaps.setBlock Y k.b (.mapIter (some kb.b) q.es.length (O.toArray.push i) es.size)).heap.size=Y.heap.size by simp[ChangeMaps.setBlock],F];exact dG _
      .have:(ChangeMaps.setBlock Y k.b (.mapIter (some kb.b) q.es.length (O.toArray.push i) es.size)).heap[b]? =Y.heap[b]? :=by
        simp[ChangeMaps.setBlock,iM (kY r0)]
       rw[this,F]
     have h0:=eW x0;have s0:=Step.writeAny (r':=⟨false,0,[],[.mp y,.int .i64 q.es.length]::(U++[iE i])⟩) Z.mem Z.inj Z.wlt e1 hr x0 M
      (.inr (.inr ⟨λ _=>h0,e0,rfl,rfl,y,kb.b,q.es.length,O++[i],by rw[e5];simp,e6.goes M (λ b _ h1 h2=>h1 (h2▸h0)) (λ _ _ h=>h) (Old.refl μ),by
       rw[g4];have:k.b<Y.heap.size:=by rw[F];exact hlt
       simp[ChangeMaps.setBlock,this]⟩))
     refine⟨_,.tuple #[.bool true,es[i].key,es[i].val],_,W,μ,by simp only[execOp,ho,e2,qc,l3,Oc,Qc],.inl rfl,?_,s0⟩;have u0:=(g5 i es[i] (q.es.getD i d) (fJ L) (by rw[cD,cE om];rfl)).keep M (λ b _ h1 h2=>h1 (h2▸h0)) (λ _ _ h=>h);refine⟨[.bool true,es[i].key,es[i].val],rfl,rfl,λ j u b B h4=>?_⟩;cases j with
     |zero=>simp at B h4;subst B;subst h4;exact RepC.bool _
     |succ j=>exact Qk (i:=i) u0 j u b (by simpa using B) (by simpa using h4)
   .exact h.elim
  .exact h.elim
 .exact h.elim
def YK(U:SatW E s a w W μ){x:Operand}{av:A}{K:A->List (Nat×MS)->Prop}(ho:o.op=.entry x)(L:Rep w W μ (a.eval x) av){d:List A}(h:entQ d s.mem K [av]):
  ∃v H,K v H/\(∀q∈H,∃r,q.2=.row r/\∃Y,s.mem q.1=.row Y)/\mN P o a w W μ s.mem v (setM s.mem H):=by
 cases av<;>simp only[entQ]at h;split at h
 .rename_i r B;split at h
  .rename_i y i V;split at h
   .rename_i q O;obtain⟨F,M,Z,h4⟩:=h;exact⟨_,_,h4,(λ q O=>nomatch O),YI U ho L B V O F M Z d⟩
   .exact h.elim
  .exact h.elim
 .exact h.elim
end
end Ab
end Go.Proofs.YtfmnjkfhahfhgaaGreatDoor
