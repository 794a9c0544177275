import Derived.Test.YtamndckemppjdaaGreatDoorAb10
namespace Go.Proofs.YtamndckemppjdaaGreatDoor
namespace Ab
set_option linter.unusedSimpArgs false
set_option linter.unusedVariables false
def zaX7(f:TypeId->Option (List LK))(P:Program):Nat->List Field->Option (List LK)
 |_,[]=>some []
 |off,g::gs=>if g.offset==off&&g.name != "_" then
   match f g.type with
   |some ks=>if szIs P g.type ks.length&&!ks.isEmpty then(match zaX7 f P (off+ks.length) gs with|some r=>some (ks++r)|none=>none)else none
   |none=>none
  else none
def zaq8(P:Program):Nat->TypeId->Option (List LK)
 |0,_=>none
 |d+1,T=>match P.underlying T with
  |some .bool=>some [.b]
  |some (.int k)=>some [.i k]
  |some .string=>some [.s]
  |some (.struct fs)=>if P.stoodInHeld T then none else zaX7 (zaq8 P d) P 0 fs.toList
  |_=>none
section
variable {P:Program} {o:Oper} {a:Act} {E:Env} {s:S} {w:World} {W:Nat→Prop} {μ:Nat→Loc}
def zah9(P:Program)(T:TypeId)(us:List Value):Value:=match P.underlying T with
 |some d=>if aggD d then .agg us.toArray else us.headD undef
 |none=>undef
theorem zH9:∀{ks:List LK} {cs:List A},zo2 ks cs=true->cs.length=ks.length
 |[],[],_=>rfl
 |k::ks,c::cs,h=>by simp only[zo2,cF]at h;simp[zH9 h.2]
 |[],_::_,h=>by simp[zo2]at h
 |_::_,[],h=>by simp[zo2]at h
theorem zbg6:∀{as bs cs ds:List A},as.length=bs.length->eqA (as++cs) (bs++ds)=(eqA as bs&&eqA cs ds)
 |[],[],cs,ds,_=>by simp[eqA]
 |a::as,b::bs,cs,ds,h=>by simp only[List.cons_append,eqA];rw[zbg6 (by simpa using h),Bool.and_assoc]
 |[],_::_,_,_,h=>by simp at h
 |_::_,[],_,_,h=>by simp at h
theorem zaq9:∀{k1 k2:List LK} {cs:List A},zo2 (k1++k2) cs=true->zo2 k1 (cs.take k1.length)=true/\zo2 k2 (cs.drop k1.length)=true
 |[],k2,cs,h=>by simpa [zo2]using h
 |k::k1,k2,c::cs,h=>by simp only[List.cons_append,zo2,cF]at h;have:=zaq9 h.2;simp[zo2,h.1,this.1,this.2]
 |k::k1,k2,[],h=>by simp[zo2]at h
theorem Cs.take{R:Value->A->Prop}{us:List Value}{cs:List A}(h:Cs R us cs)(n:Nat):Cs R (us.take n) (cs.take n):=
 ⟨by simp[h.1],λ i u b hu hb=>by
  rw[dG]at hu hb;split at hu
  .rename_i hi;rw[cQ hi]at hb;exact h.2 i u b hu hb
  .cases hu⟩
theorem Cs.drop{R:Value->A->Prop}{us:List Value}{cs:List A}(h:Cs R us cs)(n:Nat):Cs R (us.drop n) (cs.drop n):=
 ⟨by simp[h.1],λ i u b hu hb=>by
  rw[dO]at hu hb;exact h.2 _ u b hu hb⟩
theorem zaX8{d:Nat}{T:TypeId}{ks:List LK}(h:zaq8 P d T=some ks):∃t,P.underlying T=some t/\(aggD t=false->ks.length=1):=by
 cases d with
 |zero=>simp[zaq8]at h
 |succ d=>
  unfold zaq8 at h;split at h
  .rename_i hu;cases h;exact⟨_,hu,λ _=>rfl⟩
  .rename_i k hu;cases h;exact⟨_,hu,λ _=>rfl⟩
  .rename_i hu;cases h;exact⟨_,hu,λ _=>rfl⟩
  .rename_i fs hu;exact⟨_,hu,λ h=>by simp[aggD]at h⟩
  .cases h
theorem zbg7{T:TypeId}{t:TypeDesc}{n off:Nat}(hu:P.underlying T=some t)(hz:szIs P T n=true)(hn:aggD t=false->n=1)(us:List Value)(hfit:off+n<=us.length):
  (part T us.toArray off).run P w=.ok (zah9 P T ((us.drop off).take n)) w:=by
 unfold zah9;simp only[hu];cases ha:aggD t with
 |true=>simp[part,zac6 hu,ha,zae4 hz]
 |false=>
  have:=hn ha;subst this;have hlt:off<us.length:=by omega
  simp[part,zac6 hu,ha,zay0 hlt,hlt]
theorem zaF7(d:Nat):∀(T:TypeId) (ks:List LK),zaq8 P d T=some ks->∀(D:Nat),d<=D->∀(us vs:List Value) (cs ds:List A),zo2 ks cs=true->zo2 ks ds=true->Cs (RepK w W μ) us cs->Cs (RepK w W μ) vs ds->
  (Op.equalIn D T (zah9 P T us) (zah9 P T vs)).run P w=.ok (eqA cs ds) w:=by
 induction d with
 |zero=>intro T ks h;simp[zaq8]at h
 |succ d ih=>
  intro T ks h D hD us vs cs ds hc hd hu hv;obtain⟨D',rfl⟩:∃D',D=D'+1:=⟨D-1,by omega⟩;have one:∀(k:LK),ks=[k]->∃c e u v,cs=[c]/\ds=[e]/\us=[u]/\vs=[v]/\k.fits c=true/\k.fits e=true/\RepK w W μ u c/\RepK w W μ v e:=λ k hk=>by
   subst hk;have l1:=zH9 hc;have l2:=zH9 hd;have l3:=hu.1;have l4:=hv.1
   match cs,ds,us,vs,l1,l2,l3,l4 with
   |[c],[e],[u],[v],_,_,_,_=>simp only[zo2,gJ]at hc hd;exact⟨c,e,u,v,rfl,rfl,rfl,rfl,hc,hd,hu.2 0 u c rfl rfl,hv.2 0 v e rfl rfl⟩
  unfold zaq8 at h;split at h
  .rename_i hT;cases h;obtain⟨c,e,u,v,rfl,rfl,rfl,rfl,h1,h2,h3,h4⟩:=one _ rfl;cases c<;>simp[LK.fits]at h1;cases e<;>simp[LK.fits]at h2;have e1:=Rep.bool (zp6 (zo5 h3));have e2:=Rep.bool (zp6 (zo5 h4));subst e1;subst e2;simp only[zah9,hT,aggD,cG,cV,List.headD_cons,run_equalIn_bool' w D' T _ _ hT,eqA,eq1,gJ]
  .rename_i k hT;cases h;obtain⟨c,e,u,v,rfl,rfl,rfl,rfl,h1,h2,h3,h4⟩:=one _ rfl;cases c<;>simp[LK.fits]at h1;cases e<;>simp[LK.fits]at h2;have e1:=Rep.int (zp6 (zo5 h3));have e2:=Rep.int (zp6 (zo5 h4));subst e1;subst e2;subst h1;subst h2;simp only[zah9,hT,aggD,cG,cV,List.headD_cons,run_equalIn_int w D' T _ _ _ _ hT,eqA,eq1,gJ]
  .rename_i hT;cases h;obtain⟨c,e,u,v,rfl,rfl,rfl,rfl,h1,h2,h3,h4⟩:=one _ rfl;cases c<;>simp[LK.fits]at h1;cases e<;>simp[LK.fits]at h2;have e1:=Rep.str (zp6 (zo5 h3));have e2:=Rep.str (zp6 (zo5 h4));subst e1;subst e2;simp only[zah9,hT,aggD,cG,cV,List.headD_cons,run_equalIn_string w D' T _ _ hT,eqA,eq1,gJ]
  .rename_i fs hT;split at h
   .cases h
   .rename_i hst;have hfo:P.fieldsOf T=fs:=by simp[Program.fieldsOf,hT]
    simp only[zah9,hT,aggD,dM];rw[run_equalIn_agg w D' T us.toArray vs.toArray (by rw[hfo];exact hT) (by simpa using hst),hfo];have key:∀(gs:List Field) (off:Nat) (kk:List LK),zaX7 (zaq8 P d) P off gs=some kk->zo2 kk (cs.drop off)=true->zo2 kk (ds.drop off)=true->
      (Op.eqFields D' us.toArray vs.toArray gs).run P w=.ok (eqA (cs.drop off) (ds.drop off)) w:=by
     intro gs;induction gs with
     |nil=>intro off kk h1 h2 h3;simp only[zaX7,eJ]at h1;subst h1;have l1:=zH9 h2;have l2:=zH9 h3;rw[cW l1,cW l2];rfl
     |cons g gs ihg=>
      intro off kk h1 h2 h3;unfold zaX7 at h1;split at h1
      .rename_i hg;simp only[cF,cY,bne_iff_ne]at hg;obtain⟨hgo,hgn⟩:=hg;split at h1
       .rename_i ks1 hk1;split at h1
        .rename_i hsz;split at h1
         .rename_i r hr;cases h1;obtain⟨a1,a2⟩:=zaq9 h2;obtain⟨b1,b2⟩:=zaq9 h3;obtain⟨t,ht,htn⟩:=zaX8 hk1;have l1:=zH9 h2;have l2:=zH9 h3;simp only[eG,cX]at l1 l2;simp only[cF,dQ,iL]at hsz;obtain⟨hsz,hne⟩:=hsz;have hpos:0<ks1.length:=gG.2 hne;have l3:=hu.1;have l4:=hv.1;have p1:=zbg7 (w:=w) ht hsz htn us (off:=off) (by omega);have p2:=zbg7 (w:=w) ht hsz htn vs (off:=off) (by omega);have q:=ih g.type ks1 hk1 D' (by omega) _ _ _ _ a1 b1 ((hu.drop off).take _) ((hv.drop off).take _);rw[fD]at a2 b2;have r2:=ihg (off+ks1.length) r hr a2 b2;have hsplit:eqA (cs.drop off) (ds.drop off)=(eqA ((cs.drop off).take ks1.length) ((ds.drop off).take ks1.length)&&eqA (cs.drop (off+ks1.length)) (ds.drop (off+ks1.length))):=by
           rw[<-fD,<-fD,<-zbg6 (by simp;omega),dY,dY]
          rw[hsplit];simp only[Op.eqFields,ne_eq,hgn,iO,dM,hgo,Sem.run_bind,p1,p2,Result.andThen_ok,q];cases eqA ((cs.drop off).take ks1.length) ((ds.drop off).take ks1.length)with
          |true=>simpa using r2
          |false=>simp
         .cases h1
        .cases h1
       .cases h1
      .cases h1
    exact key fs.toList 0 ks h (by simpa using hc) (by simpa using hd)
  .cases h
theorem zcO3(hs:SatW E s a w W μ){x y:Operand}{T T2:TypeId}{neg:Bool}{ks:List LK}{cs ds:List A}(ho:o.op=.binOp (if neg then .neq else .eql) T x y T2)(hT:zaq8 P 20 T=some ks)(hag:(match P.underlying T with|some d=>aggD d|none=>false)=true)
  (hg:P.eqGuardType P.depth T=false) (hx:Rep w W μ (a.eval x) (.agg cs)) (hy:Rep w W μ (a.eval y) (.agg ds)) (hc:zo2 ks cs=true) (hd:zo2 ks ds=true):
  zq3 P o a w W μ s.mem (.bool (if neg then !eqA cs ds else eqA cs ds)) s.mem:=by
 obtain⟨us,hxv,hu1,hu2⟩:RepV w W μ (a.eval x) (.agg cs):=hx;obtain⟨vs,hyv,hv1,hv2⟩:RepV w W μ (a.eval y) (.agg ds):=hy;have h:=zaF7 (P:=P) (w:=w) (W:=W) (μ:=μ) 20 T ks hT 10000 (by omega) us vs cs ds hc hd ⟨hu1,hu2⟩ ⟨hv1,hv2⟩;obtain⟨d,hd',_⟩:=zaX8 hT;rw[hd']at hag;simp only[zah9,hd',show aggD d=true from hag,dM]at h;refine hs.still (v:=.bool (if neg then !eqA cs ds else eqA cs ds)) ?_ (zB5 (.bool _));cases neg
 .have ho':o.op=.binOp .eql T x y T2:=ho;simp only[execOp,ho',hxv,hyv,Sem.run_bind,run_eqGuard_agg w .eql T x y us.toArray vs.toArray hg,Result.andThen_ok,run_eql_struct,h,cG,cV,Sem.run_pure]
 .have ho':o.op=.binOp .neq T x y T2:=ho;simp only[execOp,ho',hxv,hyv,Sem.run_bind,run_eqGuard_agg w .neq T x y us.toArray vs.toArray hg,Result.andThen_ok,run_neq_struct,h,dM,Sem.run_pure]
theorem zcO4(hs:SatW E s a w W μ){f:FuncId}{caps:Array Operand}{xs:List A}(ho:o.op=.makeFunc (.func f) #[] caps)(hl:caps.toList.length=xs.length)(hx:∀(i:Nat) (p:Operand) (x:A),caps.toList[i]? =some p->xs[i]? =some x->Rep w W μ (a.eval p) x)
  (hv:∀x∈xs,x.isK=true):zq3 P o a w W μ s.mem (.clo f xs) s.mem:=by
 refine hs.still (v:=.func (.func f) #[] (caps.map a.eval)) (by simp[execOp,ho,Instr.makeFunc]) (zp6 ?_);refine .inl ⟨(caps.map a.eval).toList,by rw[Array.toArray_toList],by simpa using hl,λ i u b hu hb=>?_⟩;simp only[Array.toList_map,cP,cI]at hu;obtain⟨p,hp,rfl⟩:=hu;have h1:=hx i p b hp hb;have h2:=hv b (cN hb);cases b<;>first|exact h1|(simp[A.isK]at h2;done)|skip
 rename_i f' cs;cases cs with
 |nil=>exact(RepK.toC (show RepK w W μ _ (.clo f' [])from h1) rfl)
 |cons=>simp[A.isK]at h2
theorem zaT9:∀{cs:List A},zaI5 cs=true->∀c∈cs,c.pure1=true
 |d::ds,h,c,hc=>by
  simp only[zaI5,cF]at h;rcases dB.1 hc with rfl|hc
  .exact h.1
  .exact zaT9 h.2 c hc
theorem zcO5(hs:SatW E s a w W μ){f:FuncId}{x:Operand}{cs:List A}(ho:o.op=.makeFunc (.func f) #[x] #[])(hx:Rep w W μ (a.eval x) (.agg cs))(hp:zaI5 cs=true):zq3 P o a w W μ s.mem (.bnd f cs) s.mem:=by obtain⟨us,hu,hl,hr⟩:RepV w W μ (a.eval x) (.agg cs):=hx;refine hs.still (v:=.func (.func f) #[a.eval x] #[]) (by simp[execOp,ho,Instr.makeFunc]) (zB5 ?_);rw[hu];exact .bnd f us cs hl λ i u c h1 h2=>(hr i u c h1 h2).toC (zaT9 hp c (cN h2))
theorem zce6{t y:Nat}{k:Blk}(h:μ y=.at_ k)(hz:0<k.sz)(i j:Nat):Rep w W μ (.iface t (.pointer (some ⟨k.b,i*k.sz+j,none⟩))) (.ipt t y i j):=by refine(show RepK w W μ _ (.ipt t y i j)from⟨rfl,?_⟩);rw[h];exact⟨hz,rfl⟩
theorem SatW.ipt(hs:SatW E s a w W μ){v:Value}{t y i j:Nat}{r:Row}(hx:Rep w W μ v (.ipt t y i j))(hr:s.mem y=.row r):
  ∃k,μ y=.at_ k/\v=.iface t (.pointer (some ⟨k.b,i*k.sz+j,none⟩))/\zaz2 w W μ r k:=by
 obtain⟨_,hk⟩:RepK w W μ v (.ipt t y i j):=hx;have hm:=hs.mem y;rw[hr]at hm;rcases hm with⟨h3,_⟩|⟨k,h3,h4⟩
 .rw[h3]at hk;exact hk.elim
 .rw[h3]at hk;exact⟨k,h3,hk.2,h4.ok hk.1⟩
def zby1:TypeDesc->Bool|.interface _=>false|_=>true
theorem zce7{T:TypeId}{d:TypeDesc}(hT:P.underlying T=some d)(hd:zby1 d=true)(v:Value)(w:World):(Instr.makeInterface T v).run P w=.ok (.iface T v) w:=by cases d<;>first|(cases hd;done)|simp[Instr.makeInterface,run_underlying hT]
theorem zcO6(hs:SatW E s a w W μ){T:TypeId}{x:Operand}{d:TypeDesc}{ax:A}{id:Nat}{ef:Ef}(ho:o.op=.makeInterface T x)(hT:P.underlying T=some d)(hd:zby1 d=true)(hx:Rep w W μ (a.eval x) ax)(he:ev id s.mem (.mki T) [ax]=some ef)(hobl:ef.obl):
  zq3 P o a w W μ s.mem ef.v s.mem:=by
 have hrun:(execOp a.eval o).run P w=.ok (.value (.iface T (a.eval x))) w:=by simp[execOp,ho,zce7 hT hd]
 cases ax<;>simp only[ev]at he<;>first|(cases he;done)|skip
 .rename_i y i j;split at he
  .rename_i r hr;cases he;obtain⟨k,hk,hv,hrow⟩:=hs.ptr hx hr;refine hs.still (v:=.iface T (a.eval x)) hrun ?_;rw[hv];exact zce6 hk hrow.pos i j
  .cases he
 .rename_i cs;cases he;obtain⟨us,hu,hl,hr⟩:RepV w W μ (a.eval x) (.agg cs):=hx;refine hs.still (v:=.iface T (a.eval x)) hrun (zB5 ?_);rw[hu];exact .ival T us cs hl λ i u c h1 h2=>(hr i u c h1 h2).toC (zaT9 hobl c (cN h2))
theorem zcO7(hs:SatW E s a w W μ){T U:TypeId}{x:Operand}{d:TypeDesc}{cs:List A}(ho:o.op=.typeAssert x U T false)(hT:P.underlying T=some d)(hd:zby1 d=true)(hx:Rep w W μ (a.eval x) (.ival T cs)):
  zq3 P o a w W μ s.mem (.agg cs) s.mem:=by
 obtain⟨us,hv,hl,hr⟩:=RepC.ival_val (show RepC w W (a.eval x) (.ival T cs)from hx);refine hs.still (v:=.agg us.toArray) ?_ (show RepV w W μ (.agg us.toArray) (.agg cs)from⟨us,rfl,hl,λ i u c h1 h2=>zp5 (hr i u c h1 h2)⟩);rw[show(execOp a.eval o)=(do pure (.value (<-Instr.typeAssert (a.eval x) U T false)))by simp[execOp,ho],hv];cases d<;>first|(cases hd;done)|simp[Instr.typeAssert,run_underlying hT]
theorem zcp1(hs:SatW E s a w W μ){x i:Operand}{T:TypeId}{b:ByteArray}{k:IntKind}{q:Int}(ho:o.op=.index T x i)(hT:P.underlying T=some .string)(hx:Rep w W μ (a.eval x) (.str b))(hi:Rep w W μ (a.eval i) (.int k q))(h0:0<=q)(h1:q<b.size):
  zq3 P o a w W μ s.mem (.int .u8 (b.toList.getD q.toNat 0).toNat) s.mem:=by
 refine hs.still (v:=.int .u8 (b.toList.getD q.toNat 0).toNat) ?_ (zB5 (.int _ _));have hlt:q.toNat<b.size:=by omega
 have hbl:b.toList=b.data.toList:=ByteArray.toList_eq b;have hb:b[q.toNat]? =some (b.toList.getD q.toNat 0):=by rw[hbl];simp[getElem?_def,hlt];rfl
 simp[execOp,ho,hx.str,hi.int,Instr.index,asIntOf,run_underlying hT,h0,hb]
end
end Ab
end Go.Proofs.YtamndckemppjdaaGreatDoor
