import Derived.Test.YtamndckemppjdaaGreatDoorAb11
import Derived.MapKept
import Derived.WideKeyRuns
import Derived.Laws.StructEq
import Derived.Maps.RangeRun
namespace Go.Proofs.YtamndckemppjdaaGreatDoor
namespace Ab
set_option linter.unusedSimpArgs false
set_option linter.unusedVariables false
def kOk:TypeDesc->A->Bool
 | .string,.str _=>true
 | .int k,.int k' _=>k==k'
 | .bool,.bool _=>true
 |_,_=>false
def keyD(P:Program)(K:TypeId):A->Bool
 | .agg zs=>(match zaq8 P 20 K with|some ks=>zo2 ks zs|none=>false)&&(match P.underlying K with|some d=>aggD d|none=>false)
 |kz=>match P.underlying K with
  |some d=>kOk d kz
  |none=>false
def zvOk(P:Program)(T:TypeId)(ag:Bool)(z:List A):Bool:=match P.info? T with
 |some i=>(match i.zero with|some (.agg vs)=>ag&&zS1 vs.toList z|some v=>!ag&&zS1 [v] z|none=>false)
 |none=>false
def zbg8(P:Program)(T:TypeId)(kz:A):Bool:=match P.underlying T with
 |some (.map K _)=>keyD P K kz
 |_=>false
def zbV1(P:Program)(T:TypeId)(ag:Bool)(z:List A):Bool:=match P.underlying T with
 |some (.map _ E)=>zvOk P E ag z
 |_=>false
def zbJ4:TypeDesc->Bool|.map _ _=>true|_=>false
section
variable {P:Program} {o:Oper} {a:Act} {E:Env} {s:S} {w:World} {W:Nat→Prop} {μ:Nat→Loc}
theorem SatW.mpr(hs:SatW E s a w W μ){v:Value}{y:Nat}{r:Row}(hx:Rep w W μ v (.mp y))(hr:s.mem y=.row r)(hz:r.z≠[]):∃k,μ y=.at_ k/\v=.map (some k.b)/\zaT6 w W r k:=by
 obtain⟨_,hk⟩:RepK w W μ v (.mp y):=hx;have hm:=hs.mem y;rw[hr]at hm;rcases hm with⟨h3,_⟩|⟨k,h3,h4⟩
 .rw[h3]at hk;exact hk.elim
 .rw[h3]at hk;rcases h4.any hk.1 with h5|h5
  .exact⟨k,h3,hk.2,h5⟩
  .exact absurd h5.2.2.2.1 hz
theorem zbF2{d:TypeDesc}{kz k c:A}{v u:Value}(hd:kOk d kz=true)
  (h1:zC9 kz k=true) (h2:zC9 kz c=true) (hv:RepY w W v k) (hu:RepY w W u c):Instr.sameNow d v u=some (eqK k c):=by
 cases d<;>cases kz<;>simp only[kOk,cG]at hd<;>
  (cases k<;>simp only[zC9,key1,cG]at h1)<;>(cases c<;>simp only[zC9,key1,cG]at h2)<;>
  (cases hv;cases hu)
 all_goals first
  |rfl
  |(simp only[Instr.sameNow,eqK,eq1,beq_toListBytes];done)
  |(simp only[cY]at h1 h2;subst h1;subst h2;simp[Instr.sameNow,eqK,eq1])
theorem zby2{kz k c:A}{v u:Value}{n:Nat}(h1:key1 kz k=true)(h2:key1 kz c=true)(hv:RepC w W v k)(hu:RepC w W u c)(e:eq1 k c=true):Instr.sameBits n u v=true:=by
 cases kz<;>(cases k<;>simp only[key1,cG]at h1)<;>(cases c<;>simp only[key1,cG]at h2)<;>(cases hv;cases hu)
 all_goals simp only[eq1,cY]at e h1 h2
 .subst e;cases n<;>simp[Instr.sameBits]
 .subst e;subst h1;subst h2;cases n<;>simp[Instr.sameBits]
 .cases n<;>simp only[Instr.sameBits,beq_toListBytes,e,gC]
theorem zby3{n:Nat}:∀{zs ks cs:List A} {vs us:List Value},keyL zs ks=true->keyL zs cs=true->vs.length=ks.length->us.length=cs.length->(∀(i:Nat) (u:Value) (a:A),vs[i]? =some u->ks[i]? =some a->RepC w W u a)->
  (∀(i:Nat) (u:Value) (a:A),us[i]? =some u->cs[i]? =some a->RepC w W u a)->eqA ks cs=true->us.length=vs.length/\((us.zip vs).all λ(x,y)=>Instr.sameBits n x y)=true
 |[],[],[],[],[],_,_,_,_,_,_,_=>⟨rfl,rfl⟩
 |z::zs,k::ks,c::cs,v::vs,u::us,h1,h2,h3,h4,h5,h6,h7=>by simp only[keyL,cF]at h1 h2;simp only[eqA,cF]at h7;obtain⟨i1,i2⟩:=zby3 (n:=n) h1.2 h2.2 (by simpa using h3) (by simpa using h4) (λ i x a p q=>h5 (i+1) x a (by simpa using p) (by simpa using q)) (λ i x a p q=>h6 (i+1) x a (by simpa using p) (by simpa using q)) h7.2;refine⟨by simp[i1],?_⟩;simp only[List.zip_cons_cons,List.all_cons,cF];exact⟨zby2 h1.1 h2.1 (h5 0 v k rfl rfl) (h6 0 u c rfl rfl) h7.1,i2⟩
 |[],_::_,_,_,_,h,_,_,_,_,_,_=>by simp[keyL]at h
 |[],[],_::_,_,_,_,h,_,_,_,_,_=>by simp[keyL]at h
 |[],[],[],_::_,_,_,_,h,_,_,_,_=>by simp at h
 |[],[],[],[],_::_,_,_,_,h,_,_,_=>by simp at h
 |_::_,[],_,_,_,h,_,_,_,_,_,_=>by simp[keyL]at h
 |_::_,_::_,[],_,_,_,h,_,_,_,_,_=>by simp[keyL]at h
 |_::_,_::_,_::_,[],_,_,_,h,_,_,_,_=>by simp at h
 |_::_,_::_,_::_,_::_,[],_,_,_,h,_,_,_=>by simp at h
theorem zak5{kz k:A}(h:zC9 kz k=true):(∃zs cs,kz=.agg zs/\k=.agg cs/\keyL zs cs=true)\/(kz.isAg=false/\k.isAg=false/\key1 kz k=true):=by
 cases kz
 case agg zs=>cases k<;>first|(simp only[zC9,key1,cG]at h;done)|exact .inl ⟨_,_,rfl,rfl,h⟩
 all_goals(cases k<;>first|(simp only[zC9,key1,cG]at h;done)|exact .inr ⟨rfl,rfl,h⟩)
theorem zbV2{k:A}(h:k.isAg=false){v:Value}(hv:RepY w W v k):RepC w W v k:=by cases k<;>first|exact hv|(simp only[A.isAg,reduceCtorEq]at h)
theorem zcO8{k c:A}(h:k.isAg=false):eqK k c=eq1 k c:=by cases k<;>first|rfl|(simp only[A.isAg,reduceCtorEq]at h)
theorem zby4{kz k c:A}{v u:Value}(h1:zC9 kz k=true)(h2:zC9 kz c=true)(hv:RepY w W v k)(hu:RepY w W u c)(e:eqK k c=true):Instr.sameBits 10000 u v=true:=by
 rcases zak5 h1 with⟨zs,ks,rfl,rfl,h1⟩|⟨n0,n1,h1⟩
 .rcases zak5 h2 with⟨zs',cs,e0,rfl,h2⟩|⟨n0,_,_⟩
  .cases e0;obtain⟨vs,rfl,l1,r1⟩:=hv;obtain⟨us,rfl,l2,r2⟩:=hu;obtain⟨i1,i2⟩:=zby3 (n:=9999) h1 h2 l1 l2 r1 r2 e;simp only[Instr.sameBits,fL,i1,gC,Bool.true_and];exact i2
  .cases n0
 .rcases zak5 h2 with⟨zs',cs,rfl,_,_⟩|⟨_,n2,h2⟩
  .cases n0
  .rw[zcO8 n1]at e;exact zby2 h1 h2 (zbV2 n1 hv) (zbV2 n2 hu) e
theorem zbd2(b:Bool)(d:Nat):∀(T:TypeId) (ks:List LK),zaq8 P d T=some ks->∀(D:Nat),d<=D->∀(us:List Value),us.length=ks.length->(Instr.checkKey b D T (zah9 P T us)).run P w=.ok () w:=by
 induction d with
 |zero=>intro T ks h;simp[zaq8]at h
 |succ d ih=>
  intro T ks h D hD us hu;obtain⟨D',rfl⟩:∃D',D=D'+1:=⟨D-1,by omega⟩;unfold zaq8 at h;split at h
  .rename_i hT;unfold Instr.checkKey;simp only[Sem.run_bind,run_underlying hT,Result.andThen_ok];rfl
  .rename_i k hT;unfold Instr.checkKey;simp only[Sem.run_bind,run_underlying hT,Result.andThen_ok];rfl
  .rename_i hT;unfold Instr.checkKey;simp only[Sem.run_bind,run_underlying hT,Result.andThen_ok];rfl
  .rename_i fs hT;split at h
   .cases h
   .have hv:zah9 P T us=.agg us.toArray:=by simp[zah9,hT,aggD]
    rw[hv];unfold Instr.checkKey;simp only[Sem.run_bind,run_underlying hT,Result.andThen_ok];rw[<-Array.forIn_toList];have hb:0+ks.length<=us.length:=by omega
    clear hu
    generalize(0:Nat)=off at h hb;generalize fs.toList=gs at h⊢;induction gs generalizing off ks with
    |nil=>simp
    |cons g gs ihg=>
     unfold zaX7 at h;split at h
     .rename_i hg;simp only[cF,cY,bne_iff_ne]at hg;obtain⟨hgo,hgn⟩:=hg;split at h
      .rename_i ks1 hk1;split at h
       .rename_i hsz;split at h
        .rename_i r hr;cases h;obtain⟨t,ht,htn⟩:=zaX8 hk1;simp only[cF,dQ,iL]at hsz;obtain⟨hsz,hne⟩:=hsz;rw[cX]at hb;have p1:=zbg7 (w:=w) ht hsz htn us (off:=off) (by omega);have q:=ih g.type ks1 hk1 D' (by omega) ((us.drop off).take ks1.length) (by simp;omega);have r2:=ihg r (off+ks1.length) (by omega) hr;simp only[List.forIn_cons,Sem.run_bind,hgn,ne_eq,iO,dM,hgo,p1,Result.andThen_ok,q,Sem.run_pure];exact r2
        .cases h
       .cases h
      .cases h
     .cases h
  .cases h
theorem zaD5:∀{ks:List LK} {zs cs:List A},zo2 ks zs=true->keyL zs cs=true->zo2 ks cs=true
 |[],[],[],_,_=>rfl
 |k::ks,z::zs,c::cs,h1,h2=>by
  simp only[zo2,keyL,cF]at h1 h2⊢;refine⟨?_,zaD5 h1.2 h2.2⟩;cases k<;>(cases z<;>simp only[LK.fits,cG,false_and]at h1)<;>(cases c<;>simp only[key1,cG,false_and]at h2)
  .rfl
  .simp only[LK.fits,cY]at h1 h2⊢;rw[h1.1,h2.1]
  .rfl
 |[],_::_,_,h,_=>by simp[zo2]at h
 |_::_,[],_,h,_=>by simp[zo2]at h
 |[],[],_::_,_,h=>by simp[keyL]at h
 |_::_,_::_,[],_,h=>by simp[keyL]at h
theorem zbg9{K:TypeId}{zs:List A}(hK:keyD P K (.agg zs)=true):∃ks d,zaq8 P 20 K=some ks/\zo2 ks zs=true/\P.underlying K=some d/\aggD d=true:=by
 unfold keyD at hK;rw[cF]at hK;obtain⟨h1,h2⟩:=hK;split at h1
 .rename_i ks hk;split at h2
  .rename_i d hd;exact⟨ks,d,hk,h1,hd,h2⟩
  .cases h2
 .cases h1
theorem zby5{K:TypeId}{kz:A}(hn:kz.isAg=false)(hK:keyD P K kz=true):∃d,P.underlying K=some d/\kOk d kz=true:=by
 have:(match P.underlying K with|some d=>kOk d kz|none=>false)=true:=by cases kz<;>first|exact hK|(simp only[A.isAg,reduceCtorEq]at hn)
 split at this
 .rename_i d hd;exact⟨d,hd,this⟩
 .cases this
theorem zaD6{K:TypeId}{kz k:A}{v:Value}(hK:keyD P K kz=true)(hkf:zC9 kz k=true)(hv:RepY w W v k)(b:Bool):(Instr.checkKey b 10000 K v).run P w=.ok () w:=by
 rcases zak5 hkf with⟨zs,cs,rfl,rfl,hkf⟩|⟨n0,n1,hkf⟩
 .obtain⟨ks,d,h1,h2,h3,h4⟩:=zbg9 hK;obtain⟨vs,rfl,l1,_⟩:=hv;have hc:=zaD5 h2 hkf;have:=zbd2 (P:=P) (w:=w) b 20 K ks h1 10000 (by omega) vs (by rw[l1];exact zH9 hc);rwa [show zah9 P K vs=.agg vs.toArray by simp[zah9,h3,h4]]at this
 .obtain⟨d,hu,hd⟩:=zby5 n0 hK;unfold Instr.checkKey;simp only[Sem.run_bind,run_underlying hu,Result.andThen_ok];cases d<;>(cases kz<;>simp only[kOk,cG]at hd)<;>rfl
theorem zaJ1{z:List A}{kz k:A}{v:Value}(hz:z.headD .any=kz)
  (h1:zC9 kz k=true) (hv:RepY w W v k) {K:TypeId} (hK:keyD P K kz=true):∀(es:List MapEntry) (cs:List (List A)) (n:Nat),es.length=cs.length->(∀(i:Nat) (e:MapEntry) (c:List A),es[i]? =some e->cs[i]? =some c->zaq6 w W z (n+i) e c)->
  (zaa4 k cs=none/\((∀d,kOk d kz=true->Instr.findNow d v es n=some none)/\(kz.isAg=true->(Instr.findAsking K v es n).run P w=.ok none w))/\∀x,mins k x cs=cs++[k::x])\/
  ∃(i:Nat) (e:MapEntry) (c:List A),es[i]? =some e/\cs[i]? =some c/\zaa4 k cs=some c.tail/\((∀d,kOk d kz=true->Instr.findNow d v es n=some (some (n+i,e.val)))/\(kz.isAg=true->(Instr.findAsking K v es n).run P w=.ok (some (n+i,e.val)) w))/\eqK k (c.headD .any)=true/\∀x,mins k x cs=cs.set i (k::x)
 |[],[],n,_,_=>.inl ⟨rfl,⟨λ _ _=>rfl,λ _=>by simp[Instr.findAsking]⟩,λ _=>rfl⟩
 |e::es,c::cs,n,hl,h=>by
  obtain⟨_,kk,vc,ag,rfl,_,h4,h5,_⟩:=h 0 e c rfl rfl;rw[hz]at h4;have hsn:=λ d hd=>zbF2 (d:=d) hd h1 h4 hv h5;have hask:kz.isAg=true->(Op.equal K v e.key).run P w=.ok (eqK k kk) w:=λ hag=>by cases kz<;>simp only[A.isAg,cG]at hag;cases k<;>simp only[zC9,key1,cG]at h1;cases kk<;>simp only[zC9,key1,cG]at h4;rename_i zs ks cs';obtain⟨kinds,d,g1,g2,g3,g4⟩:=zbg9 hK;obtain⟨vs,rfl,l1,r1⟩:=hv;obtain⟨us,hue,l2,r2⟩:=h5;rw[hue];have:=zaF7 (P:=P) (w:=w) (W:=W) (μ:=λ _=>.fresh) 20 K kinds g1 10000 (by omega) vs us ks cs' (zaD5 g2 h1) (zaD5 g2 h4) ⟨l1,λ i u a p q=>zp5 (r1 i u a p q)⟩ ⟨l2,λ i u a p q=>zp5 (r2 i u a p q)⟩;rw[show zah9 P K vs=.agg vs.toArray by simp[zah9,g3,g4],show zah9 P K us=.agg us.toArray by simp[zah9,g3,g4]]at this;exact this
  by_cases heq:eqK k kk=true
  .refine .inr ⟨0,e,kk::vc,rfl,rfl,by simp[zaa4,heq],⟨λ d hd=>?_,λ hag=>?_⟩,heq,λ x=>by simp[mins,heq]⟩
   .simp only[Instr.findNow,hsn d hd,heq,Nat.add_zero]
   .simp only[Instr.findAsking,Sem.run_bind,hask hag,heq,Result.andThen_ok,dM,Sem.run_pure,Nat.add_zero]
  .have hf:eqK k kk=false:=by simpa using heq
   rcases zaJ1 hz h1 hv hK es cs (n+1) (by simpa using hl) (λ i e' c' x y=>by
    have:=h (i+1) e' c' (by simpa using x) (by simpa using y);rw[show n+1+i=n+(i+1)by omega];exact this)with⟨k1,⟨k2,k2'⟩,k3⟩|⟨i,e',c',k1,k2,k3,⟨k4,k4'⟩,k5,k6⟩
   .exact .inl ⟨by simp[zaa4,hf,k1],⟨λ d hd=>by simp only[Instr.findNow,hsn d hd,hf,k2 d hd],λ hag=>by simp only[Instr.findAsking,Sem.run_bind,hask hag,hf,Result.andThen_ok,cG,cV,k2' hag]⟩,λ x=>by simp[mins,hf,k3]⟩
   .exact .inr ⟨i+1,e',c',by simpa using k1,by simpa using k2,by simp[zaa4,hf,k3],⟨λ d hd=>by simp only[Instr.findNow,hsn d hd,hf,k4 d hd];rw[show n+1+i=n+(i+1)by omega],λ hag=>by simp only[Instr.findAsking,Sem.run_bind,hask hag,hf,Result.andThen_ok,cG,cV,k4' hag];rw[show n+1+i=n+(i+1)by omega]⟩,k5,λ x=>by simp[mins,hf,k6]⟩
 |[],_::_,_,h,_=>by simp at h
 |_::_,[],_,h,_=>by simp at h
theorem zav5{K:TypeId}{kz:A}(hK:keyD P K kz=true){v:Value}{es:List MapEntry}{r:Option (Nat×Value)}(h:(∀d,kOk d kz=true->Instr.findNow d v es 0=some r)/\(kz.isAg=true->(Instr.findAsking K v es 0).run P w=.ok r w)):
  (Instr.findKey K v es).run P w=.ok r w:=by
 cases hag:kz.isAg with
 |true=>
  obtain⟨zs,rfl⟩:∃zs,kz=.agg zs:=by cases kz<;>first|exact⟨_,rfl⟩|(simp only[A.isAg,reduceCtorEq]at hag)
  obtain⟨ks,d,_,_,h3,h4⟩:=zbg9 hK;rw[run_findKey_eq w (by rw[h3];cases d<;>simp only[aggD,cG]at h4<;>rfl)];exact h.2 hag
 |false=>obtain⟨d,hu,hd⟩:=zby5 hag hK;simp only[Instr.findKey,Sem.run_bind,run_underlying hu,Result.andThen_ok,h.1 d hd,Sem.run_pure]
theorem zbO4{T:TypeId}{ag:Bool}{z:List A}(h:zvOk P T ag z=true):∃v,(∀w,(zeroValue T).run P w=.ok v w)/\∀(w:World) (W:Nat->Prop),RepX w W ag v z:=by
 unfold zvOk at h;split at h
 .rename_i i hi;split at h
  .rename_i vs hz;simp only[cF]at h;obtain⟨rfl,h⟩:=h;refine⟨.agg vs,λ w=>by simp[zeroValue,typeInfo,hi,hz],λ w W=>?_⟩;have:=zT7 (w:=w) (W:=W) h;unfold RepX;rw[cQ rfl];exact⟨vs.toList,by simp,this.1,this.2⟩
  .rename_i v _ hz;simp only[cF,dQ]at h;obtain⟨rfl,h⟩:=h;refine⟨v,λ w=>by simp[zeroValue,typeInfo,hi,hz],λ w W=>?_⟩;have:=zT7 (w:=w) (W:=W) h;unfold RepX;rw[cL (by decide)]
   match z,this with
   |[b],this=>exact⟨b,rfl,this.2 0 v b rfl rfl⟩
   |[],this=>simp at this
   |_::_::_,this=>simp at this
  .cases h
 .cases h
theorem zaX9{ag:Bool}{v:Value}{cs:List A}(h:RepX w W ag v cs):RepV w W μ v (zP9 ag cs):=by
 unfold RepX at h;cases ag with
 |true=>obtain⟨vs,rfl,h2,h3⟩:=(by simpa using h:∃vs:List Value,v=.agg vs.toArray/\vs.length=cs.length/\∀(i:Nat) (u:Value) (a:A),vs[i]? =some u->cs[i]? =some a->RepC w W u a);exact⟨vs,rfl,h2,λ i u b x y=>zp5 (h3 i u b x y)⟩
 |false=>obtain⟨b,rfl,h2⟩:=(by simpa using h:∃b,cs=[b]/\RepC w W v b);exact zo5 (zp5 h2)
theorem zcp2{y:Nat}{k:Blk}(h:μ y=.at_ k)(hz:k.sz=0):Rep w W μ (.map (some k.b)) (.mp y):=by refine(show RepK w W μ _ (.mp y)from⟨rfl,?_⟩);rw[h];exact⟨hz,rfl⟩
theorem zce8(hs:SatW E s a w W μ){T:TypeId}{z:List A}{id:Nat}(ho:o.op=.makeMap T none)(hid:s.mem id=.fresh):
  zq3 P o a w W μ s.mem (.mp id) (setM s.mem [(id,.row ⟨false,0,z,[]⟩)]):=by
 have hst:=Step.newMap (w':=w.alloc (.map #[] 0)) hs.mem hs.inj hs.wlt hid (z:=z) (zR5 _ _) (by simpa using heap_alloc_new w _);refine⟨_,.map (some w.heap.size),_,_,_,?_,.inl rfl,?_,hst⟩
 .simp[execOp,ho,Instr.makeMap,newObj,Sem.run]
 .exact zcp2 (k:=⟨w.heap.size,0,0⟩) (by simp) rfl
theorem zcO9{kz k:A}{v:Value}(hkf:zC9 kz k=true)(hp:zaI5 k.cells=true)(hk:Rep w W μ v k):RepY w W v k:=by
 cases k
 case agg cs=>obtain⟨vs,h1,h2,h3⟩:RepV w W μ v (.agg cs):=hk;exact⟨vs,h1,h2,λ i u a p q=>(h3 i u a p q).toC (zaT9 hp a (cN q))⟩
 all_goals(cases kz<;>simp only[zC9,key1,cG]at hkf)<;>exact hk
theorem zbo6:∀{zs cs:List A},keyL zs cs=true->zaI5 cs=true
 |[],[],_=>rfl
 |z::zs,c::cs,h=>by simp only[keyL,cF]at h;simp only[zaI5,cF];refine⟨?_,zbo6 h.2⟩;cases z<;>(cases c<;>simp only[key1,cG,false_and]at h)<;>rfl
 |[],_::_,h=>by simp[keyL]at h
 |_::_,[],h=>by simp[keyL]at h
theorem zcm6{kz k:A}{v:Value}(hkf:zC9 kz k=true)(hk:Rep w W μ v k):RepY w W v k:=by refine zcO9 hkf ?_ hk;cases kz<;>(cases k<;>simp only[zC9,key1,cG]at hkf)<;>first|rfl|exact zbo6 hkf
theorem zcP0(hs:SatW E s a w W μ){T:TypeId}{x i:Operand}{ok ag:Bool}{kz:A}{z:List A}{y:Nat}{k:A}{r:Row}(ho:o.op=.lookup T x i ok)(hT:zbg8 P T kz=true)(hE:zbV1 P T ag z=true)
  (hx:Rep w W μ (a.eval x) (.mp y)) (hk:Rep w W μ (a.eval i) k) (hr:s.mem y=.row r) (hz:r.z=[kz,.bool ag]) (hkf:zC9 kz k=true):
  zq3 P o a w W μ s.mem (if ok then .tup [mval ag z (zaa4 k r.es),.bool (zaa4 k r.es).isSome]else mval ag z (zaa4 k r.es)) s.mem:=by
 obtain⟨kb,h1,h2,_,_,_,es,h3,h4,h5⟩:=hs.mpr hx hr (by rw[hz];exactλ h=>nomatch h);unfold zbg8 at hT;unfold zbV1 at hE;split at hT
 .rename_i K El hu;rw[hu]at hE;have hkC:=zcm6 hkf hk;obtain⟨zv,hzv,hzr⟩:=zbO4 (P:=P) hE;have hEnt:∀(i:Nat) (e:MapEntry) (c:List A),es.toList[i]? =some e->r.es[i]? =some c->zaq6 w W r.z (0+i) e c:=λ i e c p q=>by rw[dJ];exact h5 i e c (by simpa using p) q
  have fin:∀(v:Value) (b:Bool) (fk:Option (Nat×Value)),(Instr.findKey K (a.eval i) es.toList).run P w=.ok fk w->(fk=none/\v=zv/\b=false\/∃n,fk=some (n,v)/\b=true)->RepV w W μ v (mval ag z (zaa4 k r.es))->b=(zaa4 k r.es).isSome->
    zq3 P o a w W μ s.mem (if ok then .tup [mval ag z (zaa4 k r.es),.bool (zaa4 k r.es).isSome]else mval ag z (zaa4 k r.es)) s.mem:=λ v b fk g1 g2 g3 g4=>by
   refine hs.still (v:=if ok then .tuple #[v,.bool b]else v) ?_ ?_
   .simp only[execOp,ho,h2,Instr.lookup,Sem.run_bind,run_underlying hu,Result.andThen_ok,fI h3,Sem.run_pure,zaD6 hT hkf hkC,g1];rcases g2 with⟨rfl,rfl,rfl⟩|⟨n,rfl,rfl⟩<;>cases ok<;>simp[hzv]
   .cases ok with
    |false=>exact zp6 g3
    |true=>
     refine⟨[v,.bool b],rfl,rfl,λ i u c p q=>?_⟩
     match i with
     |0=>simp at p q;subst p;subst q;exact g3
     |1=>simp at p q;subst p;subst q;rw[g4];exact RepC.bool _
     |n+2=>simp at p
  rcases zaJ1 (w:=w) (W:=W) (z:=r.z) (kz:=kz) (k:=k) (v:=a.eval i) (by rw[hz];rfl) hkf hkC hT es.toList r.es 0 (by simpa using h4) hEnt with⟨k1,k2,_⟩|⟨j,e,c,k0,k1,k2,k3,_⟩
  .exact fin zv false none (zav5 hT k2) (.inl ⟨rfl,rfl,rfl⟩) (by rw[k1];exact zaX9 (hzr w W)) (by rw[k1];rfl)
  .obtain⟨_,kk,cs,ag',rfl,e4,_,_,e5⟩:=hEnt j e c k0 k1;have:ag'=ag:=by rw[hz]at e4;simpa using e4.symm
   subst this;exact fin e.val true (some (0+j,e.val)) (zav5 hT k3) (.inr ⟨_,rfl,rfl⟩) (by rw[k2];exact zaX9 e5) (by rw[k2];rfl)
 .cases hT
theorem zbs7(w:World)(g:Nat)(ob:Obj):Keeps (λ b=>b=g) w {w with heap:=w.heap.setIfInBounds g ob}:=
 ⟨rfl,rfl,rfl,cU _,by simp,λ b _ hb=>by simp[fM (iP hb)]⟩
theorem zbO5{v:A}{u:Value}(hu:Rep w W μ u v)(hv:v.isV=true)(hp:zN4 [v.cells]):RepX w W v.isAg u v.cells:=by
 have hc:∀(a:A) (x:Value),a∈v.cells->RepK w W μ x a->RepC w W x a:=λ a x ha hx=>by have:=hp _ (fE.2 rfl) a ha;exact hx.toC this
 unfold RepX;cases v<;>simp only[A.isV,cG]at hv<;>simp only[A.isAg,A.cells,dM,cG,cV]at hc|-
 case agg cs=>obtain⟨vs,e1,e2,e3⟩:RepV w W μ u (.agg cs):=hu;exact⟨vs,e1,e2,λ i x b p q=>hc b x (cN q) (e3 i x b p q)⟩
 all_goals exact⟨_,rfl,hc _ u (fE.2 rfl) hu⟩
theorem zcp3(hs:SatW E s a w W μ){T:TypeId}{x i q:Operand}{ag:Bool}{kz:A}{y:Nat}{k v:A}{r:Row}(ho:o.op=.mapUpdate T x i q\/o.op=.insert T x i q)(hT:zbg8 P T kz=true)
  (hx:Rep w W μ (a.eval x) (.mp y)) (hk:Rep w W μ (a.eval i) k) (hv:Rep w W μ (a.eval q) v) (hr:s.mem y=.row r) (hro:r.ro=false) (hz:r.z=[kz,.bool ag]) (hkf:zC9 kz k=true)
  (hV:v.isV=true) (hag:v.isAg=ag) (hp:zN4 [v.cells]):
  zq3 P o a w W μ s.mem .any (setM s.mem [(y,.row ⟨false,0,r.z,mins k v.cells r.es⟩)]):=by
 obtain⟨kb,h1,h2,h6,h7,h8,es,h3,h4,h5⟩:=hs.mpr hx hr (by rw[hz];exactλ h=>nomatch h);unfold zbg8 at hT;split at hT
 .rename_i K El hu;have hkC:=zcm6 hkf hk;have hvX:=zbO5 hv hV hp;have hEnt:∀(i:Nat) (e:MapEntry) (c:List A),es.toList[i]? =some e->r.es[i]? =some c->zaq6 w W r.z (0+i) e c:=λ i e c p q=>by rw[dJ];exact h5 i e c (by simpa using p) q
  have hnew:∀n,zaq6 w W r.z n ⟨a.eval i,a.eval q,n⟩ (k::v.cells):=λ n=>⟨rfl,k,v.cells,ag,rfl,by rw[hz];rfl,by rw[hz];exact hkf,hkC,hag▸hvX⟩;have heq:∀(es':Array MapEntry),es'.size=(mins k v.cells r.es).length->(∀(i:Nat) (e:MapEntry) (c:List A),es'[i]? =some e->(mins k v.cells r.es)[i]? =some c->zaq6 w W r.z i e c)->
    (Instr.mapUpdate T (a.eval x) (a.eval i) (a.eval q)).run P w=.ok () {w with heap:=w.heap.setIfInBounds kb.b (.map es' es'.size)}->zq3 P o a w W μ s.mem .any (setM s.mem [(y,.row ⟨false,0,r.z,mins k v.cells r.es⟩)]):=λ es' g1 g2 g3=>by
   refine⟨.skip,undef,{w with heap:=w.heap.setIfInBounds kb.b (.map es' es'.size)},W,μ,?_,.inr ⟨rfl,rfl⟩,trivial,Step.writeMap hs.mem hs.inj hs.wlt h1 hr hro h8 rfl rfl (zbs7 _ _ _) ?_ g1 g2⟩
   .rcases ho with ho|ho<;>simp only[execOp,ho,Sem.run_bind,g3,Result.andThen_ok,Sem.run_pure]
   .simp[(cO.1 h3).1]
  rcases zaJ1 (w:=w) (W:=W) (z:=r.z) (kz:=kz) (k:=k) (v:=a.eval i) (by rw[hz];rfl) hkf hkC hT es.toList r.es 0 (by simpa using h4) hEnt with⟨k1,k2,k3⟩|⟨j,e,c,k0,k1,k2,k3,k4,k5⟩
  .refine heq (es.push ⟨a.eval i,a.eval q,es.size⟩) (by rw[k3];simp[h4]) (λ n e c p q=>?_) ?_
   .rw[k3]at q;rw[Array.getElem?_push]at p;split at p
    .rename_i hn;cases p;subst hn;rw[h4,eC (cU _),gQ]at q;simp at q;subst q;exact hnew _
    .have hlt:=(cO.1 p).1;rw[dF (by omega)]at q;exact h5 n e c p q
   .rw[h2];simp only[Instr.mapUpdate,Sem.run_bind,run_underlying hu,Result.andThen_ok,fI h3,zaD6 hT hkf hkC,zav5 hT k2,iM _ h3,Array.size_push]
  .obtain⟨hb,kk,cs,ag',rfl,e4,e6,e7,e5⟩:=hEnt j e c k0 k1;simp only[List.headD_cons]at k4;have hj:es[j]? =some e:=by simpa using k0
   have hjl:=(cO.1 hj).1;rw[hz]at e6;have hsb:=zby4 (w:=w) (W:=W) hkf e6 hkC e7 k4;refine heq (es.modify j λ e'=>{e' with key:=a.eval i,val:=a.eval q}) (by rw[k5];simp[h4]) (λ n e' c' p q'=>?_) ?_
   .rw[k5]at q';rw[gT]at p
    by_cases hn:j=n
    .subst hn;rw[cQ rfl,hj]at p;simp only[Option.map_some,eJ]at p;subst p;rw[List.getElem?_set_self (by omega)]at q';cases q';have:=hnew e.born;rw[hb,dJ]at this⊢;exact this
    .rw[cL hn]at p;rw[List.getElem?_set_ne hn]at q';exact h5 n e' c' p q'
   .rw[h2];simp only[Instr.mapUpdate,Sem.run_bind,run_underlying hu,Result.andThen_ok,fI h3,zaD6 hT hkf hkC,zav5 hT k3,dJ,hj,Option.map_some,Option.getD_some,Instr.keyThatStays,hsb,dM,Sem.run_pure,iM _ h3,Array.size_modify]
 .cases hT
theorem zcp4(hs:SatW E s a w W μ){x:Operand}{t:TypeId}{ats:Array TypeId}{y:Nat}{r:Row}(ho:o.op=.call {callee:=.builtin .len,args:=#[x],argTypes:=ats})(hat:ats[0]? =some t)
  (ht:∃K El,P.underlying t=some (.map K El)) (hx:Rep w W μ (a.eval x) (.mp y)) (hr:s.mem y=.row r) (hz:r.z≠[]):zq3 P o a w W μ s.mem (.int .i64 r.es.length) s.mem:=by
 obtain⟨kb,h1,h2,_,_,_,es,h3,h4,_⟩:=hs.mpr hx hr hz;obtain⟨K,El,hu⟩:=ht;refine hs.still (v:=goInt es.size) ?_ (by rw[<-h4];exact zB5 (.int _ _));have h5:(Builtin.len_ ats o.type #[a.eval x]).run P w=.ok (goInt es.size) w:=by simp[Builtin.len_,hat,h2,run_underlying hu,fI h3]
 simp[execOp,ho,resolve,invoke,builtin,h5]
theorem SatW.itr(hs:SatW E s a w W μ){v:Value}{x y c:Nat}{rest:List (List A)}{r:Row}(hx:Rep w W μ v (.it x))(hr:s.mem x=.row r)(he:r.es=[.mp y,.int .i64 c]::rest):
  ∃(k:Blk) (b:Nat) (seen:List Nat),μ x=.at_ k/\v=.pointer (some ⟨k.b,0,none⟩)/\(r.ro=false->W k.b)/\k.sz=0/\r.sz=0/\r.z=[]/\rest=seen.map iE/\RepP w W μ (.map (some b)) (.mp y)/\w.heap[k.b]? =some (.mapIter (some b) c seen.toArray c):=by
 obtain⟨_,hk⟩:RepK w W μ v (.it x):=hx;have hm:=hs.mem x;rw[hr]at hm;rcases hm with⟨h3,_⟩|⟨k,h3,h4⟩
 .rw[h3]at hk;exact hk.elim
 .rw[h3]at hk;rcases h4.any hk.1 with⟨_,_,_,es,h5,h6,h7⟩|⟨h5,h6,h7,hz,y',b,c',seen,h8,h9,h10⟩
  .exfalso;have hi:0<es.size:=by rw[h6,he];simp
   obtain⟨_,kk,cs,ag,e1,_,_,e2,_⟩:=h7 0 es[0] _ (eE hi) (by rw[he];rfl);simp only[eY]at e1;rw[<-e1.1]at e2;generalize es[0].key=u at e2;cases e2
  .rw[he]at h8;simp only[eY,A.mp.injEq,A.int.injEq,hZ,iA]at h8;obtain⟨⟨rfl,h11⟩,h12⟩:=h8;have:c=c':=by omega
   subst this;exact⟨k,b,seen,h3,hk.2,h5,hk.1,h7,hz,h12,h9,h10⟩
theorem zcp5{y:Nat}{k:Blk}(h:μ y=.at_ k)(hz:k.sz=0):Rep w W μ (.pointer (some ⟨k.b,0,none⟩)) (.it y):=by refine(show RepK w W μ _ (.it y)from⟨rfl,?_⟩);rw[h];exact⟨hz,rfl⟩
theorem zcP1(hs:SatW E s a w W μ){x:Operand}{t:TypeId}{y id:Nat}{r:Row}(ho:o.op=.range t x)(ht:∃K El,P.underlying t=some (.map K El))(hx:Rep w W μ (a.eval x) (.mp y))(hr:s.mem y=.row r)(hz:r.z≠[])(hid:s.mem id=.fresh):
  zq3 P o a w W μ s.mem (.it id) (setM s.mem [(id,.row ⟨false,0,[],[[.mp y,.int .i64 r.es.length]]⟩)]):=by
 obtain⟨kb,h1,h2,_,_,h6,es,h3,h4,_⟩:=hs.mpr hx hr hz;obtain⟨K,El,hu⟩:=ht;have hlt:kb.b<w.heap.size:=(cO.1 h3).1;have hy:id≠y:=λ e=>by subst e;rw[hid]at hr;cases hr
 have hw':(w.alloc (.mapIter (some kb.b) es.size #[] es.size)).heap[w.heap.size]? =some (.mapIter (some kb.b) es.size #[] es.size):=by simpa using heap_alloc_new w _
 have hks:kb.sz=0:=by have:=(hs.mem y);rw[hr]at this;obtain⟨_,hk⟩:RepK w W μ _ (.mp y):=hx;rw[h1]at hk;exact hk.1
 have hst:=Step.newAny (w':=w.alloc (.mapIter (some kb.b) es.size #[] es.size)) hs.mem hs.inj hs.wlt hid (r:=⟨false,0,[],[[.mp y,.int .i64 r.es.length]]⟩) (zR5 _ _) (cO.1 hw').1
  (.inr (.inr ⟨λ _=>.inr rfl,rfl,rfl,rfl,y,kb.b,es.size,[],by rw[h4];rfl,⟨rfl,by simp only[cL (iP hy),h1];exact⟨hks,trivial⟩⟩,hw'⟩))
 refine⟨_,.pointer (some ⟨w.heap.size,0,none⟩),_,_,_,?_,.inl rfl,?_,hst⟩
 .simp only[execOp,ho,h2,Sem.run_bind,run_range_map w t K El kb.b es es.size hu h3,Result.andThen_ok,Sem.run_pure]
 .exact zcp5 (k:=⟨w.heap.size,0,0⟩) (by simp) rfl
theorem zbh0{r:Row}{k:Blk}{es:Array MapEntry}(h5:es.size=r.es.length)(h6:∀(i:Nat) (e:MapEntry) (c:List A),es[i]? =some e->r.es[i]? =some c->zaq6 w W r.z i e c):∀i (hi:i<es.size),es[i].born=i:=λ i hi=>by
 have hi2:i<r.es.length:=by omega
 exact(h6 i es[i] r.es[i] (eE hi) (cJ hi2)).1
theorem zbF3{es:Array MapEntry}(h:∀i (hi:i<es.size),es[i].born=i):(es.toList.map (·.born)).Nodup:=by
 have:es.toList.map (·.born)=List.range es.size:=by
  apply List.ext_getElem
  .simp
  .intro i h1 h2;simp only[eA,Array.length_toList]at h1;simp[h i h1]
 rw[this];exact gD
theorem zcp6{v:Value}{k:A}(h:RepY w W v k):RepV w W μ v k:=by
 cases k
 case agg cs=>obtain⟨vs,h1,h2,h3⟩:=h;exact⟨vs,h1,h2,λ i u b x y=>zp5 (h3 i u b x y)⟩
 all_goals exact zo5 (zp5 h)
theorem zbJ5{z c:List A}{e:MapEntry}{i:Nat}(h:zaq6 w W z i e c):∀(j:Nat) (u:Value) (b:A),[e.key,e.val][j]? =some u->(mEnt z c)[j]? =some b->RepV w W μ u b:=by
 obtain⟨_,k,cs,ag,rfl,h2,_,h4,h5⟩:=h;intro j u b h6 h7;rw[h2]at h7
 match j with
 |0=>simp[mEnt]at h6 h7;subst h6;subst h7;exact zcp6 h4
 |1=>simp[mEnt]at h6 h7;subst h6;subst h7;exact zaX9 h5
 |n+2=>simp at h6
theorem zce9(hs:SatW E s a w W μ){x:Operand}{X y i:Nat}{r q:Row}(ho:o.op=.entry x)(hx:Rep w W μ (a.eval x) (.it X))(hr:s.mem X=.row r)(hi:zbx7 r.es=some (y,i))(hq:s.mem y=.row q)
  (hh:r.es.head? =some [.mp y,.int .i64 q.es.length]) (hz:q.z≠[]) (hil:i<q.es.length) (d:List A):zq3 P o a w W μ s.mem (.tup (mEnt q.z (q.es.getD i d))) s.mem:=by
 obtain⟨rest,he⟩:∃rest,r.es=[.mp y,.int .i64 q.es.length]::rest:=by
  cases hes:r.es with
  |nil=>rw[hes]at hh;simp at hh
  |cons c rest=>rw[hes]at hh;simp at hh;exact⟨rest,by rw[hh]⟩
 obtain⟨k,b,seen,h1,h2,_,_,_,_,h5,h6,h7⟩:=hs.itr hx hr he;obtain⟨kb,g1,g2,_,_,_,es,g3,g4,g5⟩:=hs.mpr (v:=.map (some b)) (zp6 (zo5 h6.toK)) hq hz;cases g2;rw[he,h5]at hi;simp only[zbx7,List.head?_cons,List.tail_cons,List.getLast?_map]at hi;cases hl:seen.getLast? with
 |none=>rw[hl]at hi;simp at hi
 |some i'=>
  rw[hl]at hi;simp[iE]at hi;subst hi;have hil2:i'<es.size:=by omega
  have hb:=zbh0 (k:=kb) g4 g5;obtain⟨s0,hs0⟩:∃s0,seen=s0++[i']:=List.getLast?_eq_some_iff.1 hl;have hpush:seen.toArray=s0.toArray.push es[i'].born:=by rw[hs0,hb i' hil2];simp
  have hrun:=run_entry_at (P:=P) w k.b kb.b q.es.length s0.toArray es es.size es[i'] (by rw[<-hpush,h7,g4]) g3 (by simp) (zbF3 hb);refine hs.still (v:=.tuple #[es[i'].key,es[i'].val]) (by simp only[execOp,ho,h2,Sem.run_bind,hrun,Result.andThen_ok,Sem.run_pure]) ?_;refine⟨[es[i'].key,es[i'].val],rfl,rfl,zbJ5 (i:=i') (g5 i' es[i'] (q.es.getD i' d) (eE hil2) ?_)⟩;rw[cK,cJ hil];rfl
def entQ(d:List A)(m:Nat->MS)(K:A->List (Nat×MS)->Prop):List A->Prop
 |[.it x]=>match m x with
  | .row r=>match zbx7 r.es with
   |some (y,i)=>match m y with
    | .row q=>r.es.head? =some [.mp y,.int .i64 q.es.length]/\q.z≠[]/\i<q.es.length/\K (.tup (mEnt q.z (q.es.getD i d))) []
    |_=>False
   |none=>False
  |_=>False
 |_=>False
structure Both (p q:Prop):Prop where
 fst:p
 snd:q
def nxtQ(d:List A)(m:Nat->MS)(K:A->List (Nat×MS)->Prop):List A->Prop
 |[.it x]=>match m x with
  | .row r=>match r.es with
   |[.mp y,.int .i64 c]::seen=>match m y with
    | .row q=>r.ro=false/\q.z≠[]/\c=q.es.length/\
      Both (∀i:Nat,i<q.es.length->iE i∉seen->K (.tup (.bool true::mEnt q.z (q.es.getD i d))) [(x,.row ⟨false,0,[],[.mp y,.int .i64 c]::(seen++[iE i])⟩)])
      ((∀i:Nat,i<q.es.length->iE i∈seen)->K (.tup [.bool false]) [])
    |_=>False
   |_=>False
  |_=>False
 |_=>False
theorem zcp7(hs:SatW E s a w W μ){x:Operand}{av:A}{K:A->List (Nat×MS)->Prop}(ho:o.op=.next x false)(hx:Rep w W μ (a.eval x) av){d:List A}(h:nxtQ d s.mem K [av]):
  ∃v mw,K v mw/\(∀q∈mw,∃r,q.2=.row r/\∃r',s.mem q.1=.row r')/\zq3 P o a w W μ s.mem v (setM s.mem mw):=by
 cases av<;>simp only[nxtQ]at h;rename_i X;split at h
 .rename_i r hr;split at h
  .rename_i y c seen he;split at h
   .rename_i q hq;obtain⟨hro,hz,hc,⟨h1,h2⟩⟩:=h;obtain⟨n,rfl⟩:∃n:Nat,c=n:=⟨q.es.length,hc⟩;have hn:n=q.es.length:=by omega
    subst hn;obtain⟨k,b,sn,e1,e2,eW,e0,e3,e4,e5,e6,e7⟩:=hs.itr hx hr he;obtain⟨kb,g1,g2,_,_,_,es,g3,g4,g5⟩:=hs.mpr (v:=.map (some b)) (zp6 (zo5 e6.toK)) hq hz;cases g2;have hb:=zbh0 (k:=kb) g4 g5;have hseen:∀i:Nat,iE i∈seen↔i∈sn:=λ i=>by
     rw[e5];simp only[iE,cS,eY,A.int.injEq,hZ,iA];constructor
     .rintro⟨j,hj,hj2⟩;have:j=i:=by omega
      exact this▸hj
     .intro hi;exact⟨i,hi,rfl⟩
    have hold:∀x∈es.toList,x.born<q.es.length:=λ x hx=>by obtain⟨i,hi,rfl⟩:=gH hx;simp only[Array.length_toList]at hi;simp only[Array.getElem_toList,hb i hi];omega
    have hr1:w.heap[k.b]? =some (.mapIter (some kb.b) q.es.length sn.toArray q.es.length):=e7;rcases run_next_at (P:=P) w o.type k.b kb.b q.es.length q.es.length sn.toArray es es.size hr1 g3 hold (cU _)with⟨l1,l2⟩|⟨e,l1,w1,l2,l3⟩
    .refine⟨_,_,h2 λ i hi=>(hseen i).2 ?_,(λ q hq=>nomatch hq),hs.still (v:=.tuple #[.bool false]) (by simp only[execOp,ho,e2,Sem.run_bind,l2,Result.andThen_ok,Sem.run_pure]) ?_⟩
     .have hi2:i<es.size:=by omega
      have:es[i]∉(leftOf es sn.toArray).toList:=by have:(leftOf es sn.toArray)=#[]:=Array.eq_empty_of_size_eq_zero l1;rw[this];simp
      unfold leftOf at this;simp[hb i hi2]at this;exact this
     .exact⟨[.bool false],rfl,rfl,λ j u b h3 h4=>by
       match j with
       |0=>simp at h3 h4;subst h3;subst h4;exact RepC.bool _
       |n+1=>simp at h3⟩
    .obtain⟨m1,m2⟩:=mem_left l1;obtain⟨i,hi,rfl⟩:=gH m1;simp only[Array.length_toList]at hi;simp only[Array.getElem_toList]at l3 m2;rw[hb i hi]at l3 m2;have hns:i∉sn:=by simpa using m2
     refine⟨_,_,h1 i (by omega) (λ hh=>hns ((hseen i).1 hh)),(λ q' hq'=>by simp at hq';subst hq';exact⟨_,rfl,r,hr⟩),?_⟩;have hlt:=(cO.1 e7).1;have hdr:w1.heap=w.heap:=by rcases l2 with h|h<;>rw[h]<;>rfl
     have hkp:Keeps (λ b=>b=k.b) w (ChangeMaps.setBlock w1 k.b (.mapIter (some kb.b) q.es.length (sn.toArray.push i) es.size)):=by
      refine⟨?_,?_,?_,?_,?_,λ b hb hne=>?_⟩
      .rcases l2 with h|h<;>rw[h]<;>rfl
      .rcases l2 with h|h<;>rw[h]<;>rfl
      .rcases l2 with h|h<;>rw[h]<;>rfl
      .rcases l2 with h|h<;>rw[h]
       .exact cU _
       .exact hY _
      .rw[show(ChangeMaps.setBlock w1 k.b (.mapIter (some kb.b) q.es.length (sn.toArray.push i) es.size)).heap.size=w1.heap.size by simp[ChangeMaps.setBlock],hdr];exact cU _
      .have:(ChangeMaps.setBlock w1 k.b (.mapIter (some kb.b) q.es.length (sn.toArray.push i) es.size)).heap[b]? =w1.heap[b]? :=by
        simp[ChangeMaps.setBlock,fM (iP hne)]
       rw[this,hdr]
     have hWk:=eW hro;have hst:=Step.writeAny (r':=⟨false,0,[],[.mp y,.int .i64 q.es.length]::(seen++[iE i])⟩) hs.mem hs.inj hs.wlt e1 hr hro hkp
      (.inr (.inr ⟨λ _=>hWk,e0,rfl,rfl,y,kb.b,q.es.length,sn++[i],by rw[e5];simp,e6.goes hkp (λ b _ h1 h2=>h1 (h2▸hWk)) (λ _ _ h=>h) (Old.refl μ),by
       rw[g4];have:k.b<w1.heap.size:=by rw[hdr];exact hlt
       simp[ChangeMaps.setBlock,this]⟩))
     refine⟨_,.tuple #[.bool true,es[i].key,es[i].val],_,W,μ,by simp only[execOp,ho,e2,Sem.run_bind,l3,Result.andThen_ok,Sem.run_pure],.inl rfl,?_,hst⟩;have hent:=(g5 i es[i] (q.es.getD i d) (eE hi) (by rw[cK,cJ (by omega)];rfl)).keep hkp (λ b _ h1 h2=>h1 (h2▸hWk)) (λ _ _ h=>h);refine⟨[.bool true,es[i].key,es[i].val],rfl,rfl,λ j u b h3 h4=>?_⟩;cases j with
     |zero=>simp at h3 h4;subst h3;subst h4;exact RepC.bool _
     |succ j=>exact zbJ5 (i:=i) hent j u b (by simpa using h3) (by simpa using h4)
   .exact h.elim
  .exact h.elim
 .exact h.elim
theorem zcp8(hs:SatW E s a w W μ){x:Operand}{av:A}{K:A->List (Nat×MS)->Prop}(ho:o.op=.entry x)(hx:Rep w W μ (a.eval x) av){d:List A}(h:entQ d s.mem K [av]):
  ∃v mw,K v mw/\(∀q∈mw,∃r,q.2=.row r/\∃r',s.mem q.1=.row r')/\zq3 P o a w W μ s.mem v (setM s.mem mw):=by
 cases av<;>simp only[entQ]at h;split at h
 .rename_i r hr;split at h
  .rename_i y i hi;split at h
   .rename_i q hq;obtain⟨h1,h2,h3,h4⟩:=h;exact⟨_,_,h4,(λ q hq=>nomatch hq),zce9 hs ho hx hr hi hq h1 h2 h3 d⟩
   .exact h.elim
  .exact h.elim
 .exact h.elim
end
end Ab
end Go.Proofs.YtamndckemppjdaaGreatDoor
