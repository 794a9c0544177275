import Derived.WalkKit
import Derived.Laws.AppendOwn
import Derived.Laws.AppendOwnNone
import Derived.Laws.OwnMore
import Derived.Laws.MakeOwn
import Derived.Laws.CopyOwn
import Derived.Orders
namespace Go.Proofs.YtamndckemppjdaaGreatDoor
namespace Ab
set_option linter.defProp false
def cF:=@Bool.and_eq_true
def cG:=@Bool.false_eq_true
def cH:=@List.getElem?_eq_some_iff
def cI:=@Option.map_eq_some_iff
def cJ:=@List.getElem?_eq_getElem
def cK:=@List.getD_eq_getElem?_getD
def cL:=@if_neg
def cN:=@List.mem_of_getElem?
def cO:=@Array.getElem?_eq_some_iff
def cP:=@List.getElem?_map
def cQ:=@if_pos
def cR:=@Nat.lt_of_lt_of_le
def cS:=@List.mem_map
def cU:=@Nat.le_refl
def cV:=@if_false
def cW:=@List.eq_nil_of_length_eq_zero
def cX:=@List.length_append
def cY:=@beq_iff_eq
def dA:=@congrArg
def dB:=@List.mem_cons
def dC:=@Nat.mul_le_mul_right
def dD:=@Option.bind_eq_some_iff
def dE:=@Nat.pow_lt_pow_iff_right
def dF:=@List.getElem?_append_left
def dG:=@List.getElem?_take
def dH:=@Nat.add_comm
def dI:=@List.map_cons
def dJ:=@Nat.zero_add
def dK:=@Nat.add_mul
def dL:=@List.mem_append_right
def dM:=@if_true
def dN:=@List.mem_append_left
def dO:=@List.getElem?_drop
def dP:=@Option.some.inj
def dQ:=@Bool.not_eq_true'
def dR:=@List.length_take
def dS:=@Bool.not_true
def dT:=@List.mem_range
def dU:=@Nat.ble_eq_true_of_le
def dV:=@List.mem_append
def dW:=@List.append_assoc
def dX:=@List.getElem?_toArray
def dY:=@List.take_append_drop
def dZ:=@Nat.le_of_ble_eq_true
def eA:=@List.length_map
def eC:=@List.getElem?_append_right
def eD:=@decide_eq_false_iff_not
def eE:=@Array.getElem?_eq_getElem
def eG:=@List.length_drop
def eH:=@Classical.choose_spec
def eJ:=@Option.some.injEq
def eK:=@List.take_of_length_le
def eN:=@List.append_nil
def eO:=@List.getElem?_append
def eP:=@Nat.mul_one
def eQ:=@Nat.zero_le
def eR:=@Array.getD_eq_getD_getElem?
def eT:=@Nat.add_assoc
def eU:=@Array.getElem?_append_left
def eV:=@decide_eq_true_eq
def eX:=@List.map_eq_nil_iff
def eY:=@List.cons.injEq
def eZ:=@List.map_append
def fA:=@List.mem_flatMap
def fB:=@List.mem_cons_of_mem
def fC:=@List.drop_append_of_le_length
def fD:=@List.drop_drop
def fE:=@List.mem_singleton
def fF:=@Nat.div_lt_iff_lt_mul
def fG:=@List.length_replicate
def fH:=@List.getElem?_eq_none
def fI:=@Go.MapKept.run_getObj_map
def fJ:=@Nat.min_eq_left
def fK:=@List.getElem?_of_mem
def fL:=@List.size_toArray
def fM:=@Array.getElem?_setIfInBounds_ne
def fN:=@List.take_length
def fO:=@List.length_eq_zero_iff
def fP:=@List.range'_succ
def fQ:=@and_assoc
def fR:=@List.take_append_of_le_length
def fS:=@List.mem_filter
def fT:=@Prod.mk.injEq
def fU:=@Bool.false_or
def fV:=@Array.getElem?_toList
def fW:=@Bool.not_false
def fX:=@decide_eq_true
def fY:=@Nat.pow_le_pow_right
def fZ:=@Nat.le_trans
def gB:=@Nat.div_add_mod'
def gC:=@beq_self_eq_true
def gD:=@List.nodup_range
def gE:=@Nat.le_of_lt
def gF:=@List.drop_eq_getElem_cons
def gG:=@List.length_pos_iff
def gH:=@List.getElem_of_mem
def gJ:=@Bool.and_true
def gK:=@Nat.two_pow_pos
def gL:=@List.mem_cons_self
def gN:=@Int.eq_ofNat_of_zero_le
def gO:=@List.set_eq_take_append_cons_drop
def gP:=@Nat.zero_mul
def gQ:=@Nat.sub_self
def gR:=@getElem!_pos
def gS:=@List.map_map
def gT:=@Array.getElem?_modify
def gU:=@Nat.mod_lt
def gV:=@List.all_eq_true
def gW:=@Nat.min_eq_right
def gX:=@List.getElem_mem
def gY:=@List.any_eq_true
def gZ:=@List.filter_cons
def hJ:=@Nat.lt_irrefl
def hX:=@Bool.or_false
def hY:=@Nat.le_succ
def hZ:=@true_and
def iA:=@and_true
def iB:=@List.contains_eq_mem
def iC:=@Int.le_refl
def iF:=@Bool.eq_iff_iff
def iG:=@decide_eq_false
def iH:=@Bool.or_self
def iI:=@List.drop_zero
def iJ:=@Bool.and_false
def iK:=@List.perm_ext_iff_of_nodup
def iL:=@List.isEmpty_eq_false_iff
def iM:=@Go.MapKept.run_setObj_map
def iN:=@not_true_eq_false
def iO:=@not_false_eq_true
def iP:=@Ne.symm
def iQ:=@List.mem_range'_1
def iR:=@List.drop_append
def iS:=@Nat.lt_succ_self
def iT:=@Nat.mul_comm
def iU:=@dif_pos
def iV:=@Bool.or_eq_true
def iW:=@List.length_set
def iX:=@List.nodup_cons
def iY:=@List.range_succ
def iZ:=@List.mapM_cons
def jA:=@Option.or_none
def jB:=@and_self
def jC:=@ite_self
def jD:=@Iff.rfl
set_option linter.unusedSimpArgs false
set_option linter.unusedVariables false
inductive A where
 |bool (b:Bool)
 |int (k:IntKind) (n:Int)
 |str (s:ByteArray)
 |sl (es:List (List A))
 |full (es:List (List A))
 |own (x lo n:Nat)
 |ptr (x i j:Nat)
 |mp (x:Nat)
 |it (x:Nat)
 |rd (cs:List A) (off:Nat)
 |agg (cs:List A)
 |tup (vs:List A)
 |clo (f:FuncId) (caps:List A)
 |bnd (f:FuncId) (cs:List A)
 |ival (t:TypeId) (cs:List A)
 |ipt (t:TypeId) (x i j:Nat)
 |cnd (g:Bool) (a:A)
 |any
def zF2:FuncId:=1000000000
structure Row where
 ro:Bool
 sz:Nat
 z:List A
 es:List (List A)
structure Blk where
 b:Nat
 sz:Nat
 tot:Nat
inductive Loc where
 |fresh
 |dead
 |empty
 |at_ (k:Blk)
inductive RepC (w:World) (W:Nat->Prop):Value->A->Prop
 |bool (b:Bool):RepC w W (.bool b) (.bool b)
 |int (k:IntKind) (n:Int):RepC w W (.int k n) (.int k n)
 |str (s:ByteArray):RepC w W (.string s) (.str s)
 |fn (f:FuncId):RepC w W (.func (.func f) #[] #[]) (.clo f [])
 |nf:RepC w W .nilFunc (.clo zF2 [])
 |nmp:RepC w W (.map none) (.clo zF2 [])
 |sl0 (a:Option Addr) (cap:Nat):RepC w W (.slice a 0 cap) (.sl [])
 |sl (b off cap sz:Nat) (es:List (List A)) (us:List Value) (hb:¬W b) (hlt:b<w.heap.size) (hn:0<es.length) (hcap:es.length<=cap)
   (hsz:∀(i:Nat) (c:List A),es[i]? =some c->c.length=sz) (hlen:us.length=es.length*sz)
   (hc:∀(q:Nat) (u:Value),us[q]? =some u->w.cell? ⟨b,off+q,none⟩=some u)
   (hr:∀(i:Nat) (c:List A) (j:Nat) (a:A),es[i]? =some c->c[j]? =some a->RepC w W (us.getD (i*sz+j) undef) a):
   RepC w W (.slice (some ⟨b,off,none⟩) es.length cap) (.sl es)
 |full (a:Option Addr) (n:Nat) (es:List (List A)) (h:RepC w W (.slice a n n) (.sl es)):RepC w W (.slice a n n) (.full es)
 |bnd (f:FuncId) (us:List Value) (cs:List A) (hl:us.length=cs.length) (hr:∀(i:Nat) (u:Value) (c:A),us[i]? =some u->cs[i]? =some c->RepC w W u c):RepC w W (.func (.func f) #[.agg us.toArray] #[]) (.bnd f cs)
 |ival (t:TypeId) (us:List Value) (cs:List A) (hl:us.length=cs.length) (hr:∀(i:Nat) (u:Value) (c:A),us[i]? =some u->cs[i]? =some c->RepC w W u c):RepC w W (.iface t (.agg us.toArray)) (.ival t cs)
def RepP(w:World)(W:Nat->Prop)(μ:Nat->Loc)(v:Value):A->Prop
 | .own x lo n=>v.oneCell'=true/\match μ x with
   | .fresh=>False
   | .dead=>True
   | .empty=>n=0/\∃a,v=.slice a 0 0
   | .at_ k=>0<k.sz/\((n=0/\∃a,v=.slice a 0 0)\/∃cap,v=.slice (some ⟨k.b,lo*k.sz,none⟩) n cap/\(lo+cap)*k.sz<=k.tot/\n<=cap/\lo+cap<=maxLen)
 | .ptr x i j=>v.oneCell'=true/\match μ x with
   | .fresh=>False
   | .dead=>True
   | .empty=>False
   | .at_ k=>0<k.sz/\v=.pointer (some ⟨k.b,i*k.sz+j,none⟩)
 | .ipt t x i j=>v.oneCell'=true/\match μ x with
   | .fresh=>False
   | .dead=>True
   | .empty=>False
   | .at_ k=>0<k.sz/\v=.iface t (.pointer (some ⟨k.b,i*k.sz+j,none⟩))
 | .mp x=>v.oneCell'=true/\match μ x with
   | .fresh=>False
   | .dead=>True
   | .empty=>False
   | .at_ k=>k.sz=0/\v=.map (some k.b)
 | .it x=>v.oneCell'=true/\match μ x with
   | .fresh=>False
   | .dead=>True
   | .empty=>False
   | .at_ k=>k.sz=0/\v=.pointer (some ⟨k.b,0,none⟩)
 | .rd cs off=>∃b o,v=.pointer (some ⟨b,o+off,none⟩)/\¬W b/\b<w.heap.size/\∀(j:Nat) (a:A),cs[j]? =some a->∃u,w.cell? ⟨b,o+j,none⟩=some u/\RepC w W u a
 |a=>RepC w W v a
def RepK(w:World)(W:Nat->Prop)(μ:Nat->Loc)(v:Value):A->Prop
 | .clo f caps=>(∃vs:List Value,v=.func (.func f) #[] vs.toArray/\vs.length=caps.length/\∀(i:Nat) (u:Value) (a:A),vs[i]? =some u->caps[i]? =some a->RepP w W μ u a)\/(v=.nilFunc\/v=.map none)/\f=zF2/\caps=[]
 |a=>RepP w W μ v a
def RepV(w:World)(W:Nat->Prop)(μ:Nat->Loc)(v:Value):A->Prop
 | .agg cs=>∃vs:List Value,v=.agg vs.toArray/\vs.length=cs.length/\∀(i:Nat) (u:Value) (a:A),vs[i]? =some u->cs[i]? =some a->RepK w W μ u a
 |a=>RepK w W μ v a
def Rep(w:World)(W:Nat->Prop)(μ:Nat->Loc)(v:Value):A->Prop
 | .any=>True
 | .tup as=>∃vs:List Value,v=.tuple vs.toArray/\vs.length=as.length/\∀(i:Nat) (u:Value) (a:A),vs[i]? =some u->as[i]? =some a->RepV w W μ u a
 | .cnd g a=>(g=true->RepV w W μ v a)/\(g=false->v=undef)
 |a=>RepV w W μ v a
structure Flat (R:Value->A->Prop) (sz:Nat) (us:List Value) (es:List (List A)):Prop where
 hl:us.length=es.length*sz
 hs:∀(i:Nat) (c:List A),es[i]? =some c->c.length=sz
 ha:∀(i:Nat) (c:List A) (j:Nat) (a:A),es[i]? =some c->c[j]? =some a->∃u,us[i*sz+j]? =some u/\R u a
def zaz2(w:World)(W:Nat->Prop)(μ:Nat->Loc)(r:Row)(k:Blk):Prop:=
 (r.ro=false->W k.b)/\k.sz=r.sz/\0<r.sz/\
  ∃(us rest:List Value) (e:TypeId),w.heap[k.b]? =some (.cells (us++rest).toArray e (0,0))/\us.length+rest.length=k.tot/\Flat (RepK w W μ) r.sz us r.es
def key1:A->A->Bool
 | .str _,.str _=>true
 | .int k _,.int k' _=>k==k'
 | .bool _,.bool _=>true
 |_,_=>false
def keyL:List A->List A->Bool
 |[],[]=>true
 |z::zs,c::cs=>key1 z c&&keyL zs cs
 |_,_=>false
def zC9:A->A->Bool
 | .agg zs,.agg cs=>keyL zs cs
 |z,c=>key1 z c
def RepY(w:World)(W:Nat->Prop)(v:Value):A->Prop
 | .agg cs=>∃vs:List Value,v=.agg vs.toArray/\vs.length=cs.length/\∀(i:Nat) (u:Value) (a:A),vs[i]? =some u->cs[i]? =some a->RepC w W u a
 |a=>RepC w W v a
def RepX(w:World)(W:Nat->Prop)(ag:Bool)(v:Value)(cs:List A):Prop:=
 if ag=true then∃vs:List Value,v=.agg vs.toArray/\vs.length=cs.length/\∀(i:Nat) (u:Value) (a:A),vs[i]? =some u->cs[i]? =some a->RepC w W u a
 else∃a,cs=[a]/\RepC w W v a
def zaq6(w:World)(W:Nat->Prop)(z:List A)(i:Nat)(e:MapEntry)(c:List A):Prop:=
 e.born=i/\∃k cs ag,c=k::cs/\z=[z.headD .any,.bool ag]/\zC9 (z.headD .any) k=true/\RepY w W e.key k/\RepX w W ag e.val cs
def zaT6(w:World)(W:Nat->Prop)(r:Row)(k:Blk):Prop:=
 (r.ro=false->W k.b)/\k.sz=r.sz/\r.sz=0/\
  ∃es:Array MapEntry,w.heap[k.b]? =some (.map es es.size)/\es.size=r.es.length/\∀(i:Nat) (e:MapEntry) (c:List A),es[i]? =some e->r.es[i]? =some c->zaq6 w W r.z i e c
def iE(i:Nat):List A:=[.int .i64 (i:Nat)]
def ItOk(w:World)(W:Nat->Prop)(μ:Nat->Loc)(r:Row)(k:Blk):Prop:=
 (r.ro=false->W k.b)/\k.sz=r.sz/\r.sz=0/\r.z=[]/\
  ∃(y b c:Nat) (seen:List Nat),r.es=[.mp y,.int .i64 c]::seen.map iE/\RepP w W μ (.map (some b)) (.mp y)/\w.heap[k.b]? =some (.mapIter (some b) c seen.toArray c)
def zN2(w:World)(W:Nat->Prop)(μ:Nat->Loc)(r:Row)(k:Blk):Prop:=zaz2 w W μ r k\/zaT6 w W r k\/ItOk w W μ r k
theorem zN2.ok{w:World}{W:Nat->Prop}{μ:Nat->Loc}{r:Row}{k:Blk}(h:zN2 w W μ r k)(hk:0<k.sz):zaz2 w W μ r k:=by
 rcases h with h|⟨_,h1,h2,_⟩|⟨_,h1,h2,_⟩
 .exact h
 .omega
 .omega
theorem zN2.any{w:World}{W:Nat->Prop}{μ:Nat->Loc}{r:Row}{k:Blk}(h:zN2 w W μ r k)(hk:k.sz=0):zaT6 w W r k\/ItOk w W μ r k:=by
 rcases h with⟨_,h1,h2,_⟩|h
 .omega
 .exact h
inductive MS where
 |fresh
 |dead
 |row (r:Row)
def zV7(w:World)(W:Nat->Prop)(μ:Nat->Loc)(x:Nat):MS->Prop
 | .fresh=>μ x=.fresh
 | .dead=>μ x=.dead
 | .row r=>(μ x=.empty/\r.es=[]/\0<r.sz)\/∃k,μ x=.at_ k/\zN2 w W μ r k
def zac5(w:World)(W:Nat->Prop)(μ:Nat->Loc)(m:Nat->MS):Prop:=∀x,zV7 w W μ x (m x)
abbrev zaI4:=List (Nat×List A)
def zaq7(w:World)(W:Nat->Prop)(G:zaI4):Prop:=
 ∀g cs,(g,cs)∈G->¬W g/\g<w.heap.size/\∀(j:Nat) (a:A),cs[j]? =some a->∃u,w.cell? ⟨g,j,none⟩=some u/\RepC w W u a
structure Keeps (D:Nat->Prop) (w w':World):Prop where
 os:w'.os=w.os
 tape:w'.tape=w.tape
 output:w'.output=w.output
 drawn:w.drawn<=w'.drawn
 size:w.heap.size<=w'.heap.size
 block:∀b,b<w.heap.size->¬D b->w'.heap[b]? =w.heap[b]?
theorem Keeps.refl(D:Nat->Prop)(w:World):Keeps D w w:=⟨rfl,rfl,rfl,cU _,cU _,λ _ _ _=>rfl⟩
theorem Keeps.trans{D D':Nat->Prop}{a b c:World}(h:Keeps D a b)(k:Keeps D' b c)(hd:∀x,x<a.heap.size->D' x->D x):Keeps D a c:=
 ⟨k.os.trans h.os,k.tape.trans h.tape,k.output.trans h.output,fZ h.drawn k.drawn,fZ h.size k.size,λ x hx hn=>
  (k.block x (cR hx h.size) (λ hh=>hn (hd x hx hh))).trans (h.block x hx hn)⟩
theorem Keeps.mono{D D':Nat->Prop}{a b:World}(h:Keeps D a b)(hd:∀x,x<a.heap.size->D x->D' x):Keeps D' a b:=
 ⟨h.os,h.tape,h.output,h.drawn,h.size,λ x hx hn=>h.block x hx (λ hh=>hn (hd x hx hh))⟩
theorem RepC.keep{D:Nat->Prop}{w w':World}{W W':Nat->Prop}(hk:Keeps D w w')(hD:∀b,b<w.heap.size->¬W b->¬D b)(hW:∀b,b<w.heap.size->¬W b->¬W' b)
  {v:Value} {a:A} (h:RepC w W v a):RepC w' W' v a:=by
 induction h with
 |bool b=>exact .bool b
 |int k n=>exact .int k n
 |str s=>exact .str s
 |fn f=>exact .fn f
 |nf=>exact .nf
 |nmp=>exact .nmp
 |sl0 a cap=>exact .sl0 a cap
 |sl b off cap sz es us hb hlt hn hcap hsz hlen hc hr ih=>refine .sl b off cap sz es us (hW b hlt hb) (cR hlt hk.size) hn hcap hsz hlen (λ q u h1=>?_) ih;rw[World.cell?_of_block (w:=w) (hk.block b hlt (hD b hlt hb))];exact hc q u h1
 |full a n es h ih=>exact .full a n es ih
 |bnd f us cs hl hr ih=>exact .bnd f us cs hl ih
 |ival f us cs hl hr ih=>exact .ival f us cs hl ih
theorem RepC.oneCell{w:World}{W:Nat->Prop}{v:Value}{a:A}(h:RepC w W v a):v.oneCell'=true:=by cases h<;>rfl
theorem RepP.oneCell{w:World}{W:Nat->Prop}{μ:Nat->Loc}{v:Value}{a:A}(h:RepP w W μ v a):v.oneCell'=true:=by cases a<;>simp only[RepP]at h<;>first|exact RepC.oneCell h|exact h.1|(obtain⟨b,o,rfl,_⟩:=h;rfl)
def A.noClo:A->Bool
 | .clo _ _=>false
 |_=>true
theorem RepK.toP{w:World}{W:Nat->Prop}{μ:Nat->Loc}{v:Value}{a:A}(h:RepK w W μ v a)(hc:a.noClo=true):RepP w W μ v a:=by cases a<;>first|exact h|cases hc
theorem RepP.toK{w:World}{W:Nat->Prop}{μ:Nat->Loc}{v:Value}{a:A}(h:RepP w W μ v a):RepK w W μ v a:=by
 cases a with
 |clo f cs=>
  have h2:RepC w W v (.clo f cs):=h;cases h2
  .exact .inl ⟨[],rfl,rfl,λ i u a h=>by simp at h⟩
  .exact .inr ⟨.inl rfl,rfl,rfl⟩
  .exact .inr ⟨.inr rfl,rfl,rfl⟩
 |_=>exact h
theorem RepK.oneCell{w:World}{W:Nat->Prop}{μ:Nat->Loc}{v:Value}{a:A}(h:RepK w W μ v a):v.oneCell'=true:=by
 cases a with
 |clo f cs=>rcases h with⟨vs,rfl,_⟩|⟨rfl|rfl,_⟩<;>rfl
 |_=>exact(h.toP rfl).oneCell
def Old(μ μ':Nat->Loc):Prop:=∀x,μ x≠.fresh->μ' x=μ x\/μ' x=.dead
theorem Old.refl(μ:Nat->Loc):Old μ μ:=λ _ _=>.inl rfl
theorem RepP.goes{D:Nat->Prop}{w w':World}{W W':Nat->Prop}{μ μ':Nat->Loc}(hk:Keeps D w w')(hD:∀b,b<w.heap.size->¬W b->¬D b)
  (hW:∀b,b<w.heap.size->¬W b->¬W' b) {v:Value} {a:A} (hid:Old μ μ') (h:RepP w W μ v a):RepP w' W' μ' v a:=by
 cases a with
 |own x lo n=>
  refine⟨h.1,?_⟩;have h2:=h.2
  by_cases hf:μ x=.fresh
  .rw[hf]at h2;exact h2.elim
  .rcases hid x hf with e|e
   .rw[e];exact h2
   .rw[e];trivial
 |ptr x i j=>
  refine⟨h.1,?_⟩;have h2:=h.2
  by_cases hf:μ x=.fresh
  .rw[hf]at h2;exact h2.elim
  .rcases hid x hf with e|e
   .rw[e];exact h2
   .rw[e];trivial
 |ipt t x i j=>
  refine⟨h.1,?_⟩;have h2:=h.2
  by_cases hf:μ x=.fresh
  .rw[hf]at h2;exact h2.elim
  .rcases hid x hf with e|e
   .rw[e];exact h2
   .rw[e];trivial
 |mp x=>
  refine⟨h.1,?_⟩;have h2:=h.2
  by_cases hf:μ x=.fresh
  .rw[hf]at h2;exact h2.elim
  .rcases hid x hf with e|e
   .rw[e];exact h2
   .rw[e];trivial
 |it x=>
  refine⟨h.1,?_⟩;have h2:=h.2
  by_cases hf:μ x=.fresh
  .rw[hf]at h2;exact h2.elim
  .rcases hid x hf with e|e
   .rw[e];exact h2
   .rw[e];trivial
 |rd cs off=>obtain⟨b,o,hv,hb,hlt,hc⟩:=h;refine⟨b,o,hv,hW b hlt hb,cR hlt hk.size,λ j a hj=>?_⟩;obtain⟨u,hu,hr⟩:=hc j a hj;exact⟨u,(World.cell?_of_block (w:=w) (hk.block b hlt (hD b hlt hb))).trans hu,hr.keep hk hD hW⟩
 |_=>exact RepC.keep hk hD hW h
theorem RepK.goes{D:Nat->Prop}{w w':World}{W W':Nat->Prop}{μ μ':Nat->Loc}(hk:Keeps D w w')(hD:∀b,b<w.heap.size->¬W b->¬D b)
  (hW:∀b,b<w.heap.size->¬W b->¬W' b) {v:Value} {a:A} (hid:Old μ μ') (h:RepK w W μ v a):RepK w' W' μ' v a:=by
 cases a with
 |clo f cs=>exact h.imp (λ⟨vs,hv,hl,hr⟩=>⟨vs,hv,hl,λ i u a h1 h2=>(hr i u a h1 h2).goes hk hD hW hid⟩) id
 |_=>exact((h.toP rfl).goes hk hD hW hid).toK
theorem RepV.goes{D:Nat->Prop}{w w':World}{W W':Nat->Prop}{μ μ':Nat->Loc}(hk:Keeps D w w')(hD:∀b,b<w.heap.size->¬W b->¬D b)
  (hW:∀b,b<w.heap.size->¬W b->¬W' b) {v:Value} {a:A} (hid:Old μ μ') (h:RepV w W μ v a):RepV w' W' μ' v a:=by
 cases a with
 |agg cs=>obtain⟨vs,hv,hl,hr⟩:=h;exact⟨vs,hv,hl,λ i u a h1 h2=>(hr i u a h1 h2).goes hk hD hW hid⟩
 |clo f cs=>exact RepK.goes (a:=.clo f cs) hk hD hW hid h
 |bnd f cs=>exact RepK.goes (a:=.bnd f cs) hk hD hW hid h
 |ival f cs=>exact RepK.goes (a:=.ival f cs) hk hD hW hid h
 |ipt t x i j=>exact RepK.goes (a:=.ipt t x i j) hk hD hW hid h
 |bool b=>exact RepK.goes (a:=.bool b) hk hD hW hid h
 |int k n=>exact RepK.goes (a:=.int k n) hk hD hW hid h
 |str s=>exact RepK.goes (a:=.str s) hk hD hW hid h
 |sl es=>exact RepK.goes (a:=.sl es) hk hD hW hid h
 |full es=>exact RepK.goes (a:=.full es) hk hD hW hid h
 |own x lo n=>exact RepK.goes (a:=.own x lo n) hk hD hW hid h
 |ptr x i j=>exact RepK.goes (a:=.ptr x i j) hk hD hW hid h
 |mp x=>exact RepK.goes (a:=.mp x) hk hD hW hid h
 |it x=>exact RepK.goes (a:=.it x) hk hD hW hid h
 |rd cs off=>exact RepK.goes (a:=.rd cs off) hk hD hW hid h
 |tup vs=>exact RepK.goes (a:=.tup vs) hk hD hW hid h
 |cnd g a=>exact RepK.goes (a:=.cnd g a) hk hD hW hid h
 |any=>exact RepK.goes (a:=.any) hk hD hW hid h
theorem Rep.goes{D:Nat->Prop}{w w':World}{W W':Nat->Prop}{μ μ':Nat->Loc}(hk:Keeps D w w')(hD:∀b,b<w.heap.size->¬W b->¬D b)
  (hW:∀b,b<w.heap.size->¬W b->¬W' b) {v:Value} {a:A} (hid:Old μ μ') (h:Rep w W μ v a):Rep w' W' μ' v a:=by
 cases a with
 |any=>trivial
 |tup as=>obtain⟨vs,hv,hl,hr⟩:=h;exact⟨vs,hv,hl,λ i u a h1 h2=>(hr i u a h1 h2).goes hk hD hW hid⟩
 |cnd g a=>exact⟨λ hg=>(h.1 hg).goes hk hD hW hid,h.2⟩
 |bool b=>exact RepV.goes (a:=.bool b) hk hD hW hid h
 |int k n=>exact RepV.goes (a:=.int k n) hk hD hW hid h
 |str s=>exact RepV.goes (a:=.str s) hk hD hW hid h
 |sl es=>exact RepV.goes (a:=.sl es) hk hD hW hid h
 |full es=>exact RepV.goes (a:=.full es) hk hD hW hid h
 |own x lo n=>exact RepV.goes (a:=.own x lo n) hk hD hW hid h
 |ptr x i j=>exact RepV.goes (a:=.ptr x i j) hk hD hW hid h
 |mp x=>exact RepV.goes (a:=.mp x) hk hD hW hid h
 |it x=>exact RepV.goes (a:=.it x) hk hD hW hid h
 |rd cs off=>exact RepV.goes (a:=.rd cs off) hk hD hW hid h
 |agg cs=>exact RepV.goes (a:=.agg cs) hk hD hW hid h
 |clo f cs=>exact RepV.goes (a:=.clo f cs) hk hD hW hid h
 |bnd f cs=>exact RepV.goes (a:=.bnd f cs) hk hD hW hid h
 |ival f cs=>exact RepV.goes (a:=.ival f cs) hk hD hW hid h
 |ipt t x i j=>exact RepV.goes (a:=.ipt t x i j) hk hD hW hid h
theorem Flat.mono{R R':Value->A->Prop}{sz:Nat}{us:List Value}{es:List (List A)}(h:Flat R sz us es)(hr:∀u a,R u a->R' u a):Flat R' sz us es:=
 ⟨h.hl,h.hs,λ i c j a h1 h2=>let⟨u,h3,h4⟩:=h.ha i c j a h1 h2;⟨u,h3,hr u a h4⟩⟩
theorem Flat.nil(R:Value->A->Prop)(sz:Nat):Flat R sz [] []:=⟨by simp,by simp,by simp⟩
theorem Flat.one{R:Value->A->Prop}{us:List Value}{c:List A}(hl:us.length=c.length)(hr:∀(i:Nat) (u:Value) (a:A),us[i]? =some u->c[i]? =some a->R u a):
  Flat R c.length us [c]:=by
 refine⟨by simp[hl],λ i d h=>?_,λ i d j a h h2=>?_⟩
 .cases i with
  |zero=>simp at h;rw[h]
  |succ i=>simp at h
 .cases i with
  |zero=>
   simp at h;subst h;have hj:j<us.length:=by rw[hl];exact(cH.1 h2).1
   exact⟨us[j],by simp[hj],hr j _ a (by simp[hj]) h2⟩
  |succ i=>simp at h
theorem Flat.append{R:Value->A->Prop}{sz:Nat}{us vs:List Value}{es fs:List (List A)}(h:Flat R sz us es)(k:Flat R sz vs fs):Flat R sz (us++vs) (es++fs):=by
 refine⟨by simp[h.hl,k.hl,dK],λ i c hc=>?_,λ i c j a hc ha=>?_⟩
 .rw[eO]at hc;split at hc
  .exact h.hs i c hc
  .exact k.hs _ c hc
 .rw[eO]at hc;split at hc
  .rename_i hi;obtain⟨u,hu,hr⟩:=h.ha i c j a hc ha;refine⟨u,?_,hr⟩;rw[dF (cH.1 hu).1,hu]
  .rename_i hi;obtain⟨u,hu,hr⟩:=k.ha _ c j a hc ha;refine⟨u,?_,hr⟩;have e:i*sz+j=us.length+((i-es.length)*sz+j):=by
    rw[h.hl,<-eT,<-dK];congr 2;omega
   rw[e,eC (by omega)];rw[show us.length+((i-es.length)*sz+j)-us.length=(i-es.length)*sz+j by omega,hu]
theorem Flat.take{R:Value->A->Prop}{sz:Nat}{us:List Value}{es:List (List A)}(h:Flat R sz us es)(n:Nat):Flat R sz (us.take (n*sz)) (es.take n):=by
 refine⟨by simp only[dR,h.hl,Nat.mul_min_mul_right],λ i c hc=>?_,λ i c j a hc ha=>?_⟩
 .rw[dG]at hc;split at hc
  .exact h.hs i c hc
  .cases hc
 .rw[dG]at hc;split at hc
  .rename_i hi;obtain⟨u,hu,hr⟩:=h.ha i c j a hc ha;refine⟨u,?_,hr⟩;have hj:j<sz:=by rw[<-h.hs i c hc];exact(cH.1 ha).1
   have:i*sz+j<n*sz:=by have:(i+1)*sz<=n*sz:=dC _ hi;rw[dK]at this;omega
   rw[dG,cQ this,hu]
  .cases hc
theorem Flat.drop{R:Value->A->Prop}{sz:Nat}{us:List Value}{es:List (List A)}(h:Flat R sz us es)(n:Nat):Flat R sz (us.drop (n*sz)) (es.drop n):=by
 refine⟨by simp only[eG,h.hl];rw[Nat.sub_mul],λ i c hc=>?_,λ i c j a hc ha=>?_⟩
 .rw[dO]at hc;exact h.hs _ c hc
 .rw[dO]at hc;obtain⟨u,hu,hr⟩:=h.ha _ c j a hc ha;refine⟨u,?_,hr⟩;rw[dO,<-hu];congr 1;rw[dK];omega
theorem Flat.set{R:Value->A->Prop}{sz:Nat}{us vs:List Value}{es:List (List A)}{c:List A}(h:Flat R sz us es)(n:Nat)(hn:n<es.length)(k:Flat R sz vs [c]):
  Flat R sz (us.take (n*sz)++vs++us.drop ((n+1)*sz)) (es.set n c):=by
 have h1:=((h.take n).append k).append (h.drop (n+1));have e:es.set n c=es.take n++[c]++es.drop (n+1):=by rw[gO,cQ hn];simp
 rw[e];exact h1
theorem Flat.split{R:Value->A->Prop}{sz:Nat}{us:List Value}{es:List (List A)}(h:Flat R sz us es){i:Nat}{c:List A}(hc:es[i]? =some c):
  Flat R sz ((us.drop (i*sz)).take sz) [c]:=by
 have h1:=((h.drop i).take 1);have e:(es.drop i).take 1=[c]:=by have hi:=(cH.1 hc).1;rw[gF hi];have:=(cH.1 hc).2;simp[this]
 rw[e]at h1
 simpa using h1
theorem Flat.upd{R:Value->A->Prop}{us vs:List Value}{c d:List A}(h:Flat R c.length us [c])(hl:vs.length=d.length)(hr:∀(i:Nat) (u:Value) (a:A),vs[i]? =some u->d[i]? =some a->R u a)
  (j:Nat) (hj:j+d.length<=c.length):Flat R c.length (us.take j++vs++us.drop (j+vs.length)) [c.take j++d++c.drop (j+d.length)]:=by
 have hus:us.length=c.length:=by simpa using h.hl
 have hc:∀(i:Nat) (u:Value) (a:A),us[i]? =some u->c[i]? =some a->R u a:=by intro i u a hu ha;obtain⟨u',hu',hr'⟩:=h.ha 0 c i a (by simp) ha;simp only[gP,dJ]at hu';rw[hu]at hu';cases hu';exact hr'
 have hlen:(c.take j++d++c.drop (j+d.length)).length=c.length:=by simp;omega
 have:=Flat.one (R:=R) (us:=us.take j++vs++us.drop (j+vs.length)) (c:=c.take j++d++c.drop (j+d.length)) (by simp[hus,hl]) (by
  intro i u a hu ha;rw[dW,eO]at hu ha;rw[dR,hus]at hu;rw[dR]at ha;split at hu
  .rename_i hi;rw[cQ hi]at ha;rw[dG]at hu ha;split at hu
   .rename_i hij;rw[cQ hij]at ha;exact hc i u a hu ha
   .cases hu
  .rename_i hi;rw[cL hi]at ha;rw[eO]at hu ha;rw[hl]at hu;split at hu
   .rename_i hi2;rw[cQ hi2]at ha;exact hr _ u a hu ha
   .rename_i hi2;rw[cL hi2]at ha;rw[dO]at hu ha;exact hc _ u a hu ha)
 rwa [hlen]at this
def sub(cs:List A)(off n:Nat):List A:=(cs.drop off).take n
def upd(cs:List A)(off:Nat)(new:List A):List A:=cs.take off++new++cs.drop (off+new.length)
def zH7(n:Nat)(es:List (List A)):Prop:=∀c∈es,c.length=n
def A.cells:A->List A
 | .agg cs=>cs
 |a=>[a]
def A.isV:A->Bool
 | .bool _|.int _ _|.str _|.sl _|.full _|.own _ _ _|.ptr _ _ _|.agg _=>true
 | .clo _ _|.bnd _ _|.ival _ _|.mp _=>true
 |_=>false
def zP9(ag:Bool)(cs:List A):A:=if ag then .agg cs else cs.headD .any
inductive LK where
 |b
 |i (k:IntKind)
 |s
 deriving DecidableEq
def LK.fits:LK->A->Bool
 | .b,.bool _=>true
 | .i k,.int k' _=>k==k'
 | .s,.str _=>true
 |_,_=>false
def zo2:List LK->List A->Bool
 |[],[]=>true
 |k::ks,a::as=>k.fits a&&zo2 ks as
 |_,_=>false
def eq1:A->A->Bool
 | .bool a,.bool b=>a==b
 | .int _ a,.int _ b=>a==b
 | .str a,.str b=>a.toList==b.toList
 |_,_=>false
def eqA:List A->List A->Bool
 |a::as,b::bs=>eq1 a b&&eqA as bs
 |_,_=>true
def zF8(i n:Nat):Nat:=if i<n then i else n-1
def zn0(op:BinOp)(k:IntKind)(x y:Int):Int:=
 match op with
 | .and=>k.wrap (BitVec.ofInt k.bits x&&&BitVec.ofInt k.bits y).toNat
 | .or=>k.wrap (BitVec.ofInt k.bits x|||BitVec.ofInt k.bits y).toNat
 | .xor=>k.wrap (BitVec.ofInt k.bits x^^^BitVec.ofInt k.bits y).toNat
 | .andNot=>k.wrap (BitVec.ofInt k.bits x&&& ~~~(BitVec.ofInt k.bits y)).toNat
 |_=>0
inductive PO where
 |mv
 |nilown (sz:Nat) (z:List A)
 |pick
 |box (n:Nat)
 |alloc (n:Nat) (z:List A)
 |build (z:List A) (ps:List (Nat×Nat))
 |bslice (sz:Nat) (z:List A)
 |bown (sz:Nat) (z:List A)
 |load (n:Nat) (ag:Bool)
 |store (n:Nat)
 |bin (op:BinOp)
 |eqb (neg:Bool)
 |eqa (neg:Bool) (ks:List LK)
 |not
 |neg
 |field (off n:Nat) (ag:Bool)
 |faddr (off:Nat)
 |iaA (n sz:Nat)
 |iaS (sz:Nat) (z:List A)
 |idxA (n sz:Nat) (ag:Bool)
 |idxS
 |slc (sz:Nat) (lo hi mx:Bool)
 |slcS (lo hi:Bool)
 |ext (i:Nat)
 |len
 |lenS
 |append (sz bytes:Nat) (z:List A)
 |appc (sz bytes:Nat)
 |apl (sz bytes:Nat)
 |copy (sz:Nat)
 |clear (sz:Nat) (z:List A)
 |mk (sz bytes:Nat) (z:List A)
 |conv (k:IntKind)
 |cvS
 |cvB
 |eqNil
 |min
 |max
 |nilck
 |call (f:FuncId)
 |callv
 |callb
 |callm (f:FuncId)
 |callvm
 |mkf (f:FuncId)
 |mkb (f:FuncId)
 |mkmap (z:List A)
 |lkp (ok ag:Bool) (kz:A) (z:List A)
 |mupd (kz:A) (ag:Bool) (n:Nat)
 |lenM
 |rng
 |next(d:List A)
 |entry (d:List A)
 |mki (t:TypeId)
 |tas (t:TypeId)
 |inv (t:TypeId) (nm:String) (f:FuncId) (pr:Bool)
inductive PX where
 |t (n:Nat)
 |c (a:A)
 |g (g:Nat)
 |f (f:FuncId)
structure POp where
 dst:Option Nat
 g:Option (Nat×Bool)
 po:PO
 xs:List PX
structure Ef where
 obl:Prop
 v:A
 mw:List (Nat×MS)
def zbo1(op:BinOp):A->A->Option (Prop×A)
 | .int k a,.int k' b=>
  match op with
  | .shl=>some (0<=b,.int k (k.wrap (a*2^(Nat.min b.toNat k.bits))))
  | .shr=>some (0<=b,.int k (a.fdiv (2^(Nat.min b.toNat k.bits))))
  |op=>if k=k' then
    match op with
    | .add=>some (True,.int k (k.wrap (a+b)))
    | .sub=>some (True,.int k (k.wrap (a-b)))
    | .mul=>some (True,.int k (k.wrap (a*b)))
    | .quo=>some (b≠0,.int k (k.wrap (a.tdiv b)))
    | .rem=>some (b≠0,.int k (a.tmod b))
    | .eql=>some (True,.bool (decide (a=b)))
    | .neq=>some (True,.bool (!decide (a=b)))
    | .lss=>some (True,.bool (decide (a<b)))
    | .leq=>some (True,.bool (decide (a<=b)))
    | .gtr=>some (True,.bool (decide (b<a)))
    | .geq=>some (True,.bool (decide (b<=a)))
    | .and=>some (True,.int k (zn0 .and k a b))
    | .or=>some (True,.int k (zn0 .or k a b))
    | .xor=>some (True,.int k (zn0 .xor k a b))
    | .andNot=>some (True,.int k (zn0 .andNot k a b))
    |_=>none
   else none
 | .str a,.str b=>
  match op with
  | .add=>some (((a.size+b.size:Nat):Int)<=IntKind.i64.max,.str (a++b))
  | .eql=>some (True,.bool (a.toList==b.toList))
  | .neq=>some (True,.bool (!(a.toList==b.toList)))
  | .lss=>some (True,.bool (Op.bytesLess a.toList b.toList))
  | .leq=>some (True,.bool (Op.bytesLess a.toList b.toList||a.toList==b.toList))
  | .gtr=>some (True,.bool (!(Op.bytesLess a.toList b.toList||a.toList==b.toList)))
  | .geq=>some (True,.bool (!Op.bytesLess a.toList b.toList))
  |_=>none
 |_,_=>none
def zao0(m:Nat->MS):A->Option (List (List A))
 | .sl es=>some es
 | .full es=>some es
 | .own x lo n=>match m x with
  | .row r=>some ((r.es.drop lo).take n)
  |_=>none
 | .str s=>some (s.toList.map λ b=>[A.int .u8 b.toNat])
 |_=>none
def zY6(m:Nat->MS):A->Prop
 | .own x lo n=>match m x with
  | .row r=>lo+n<=r.es.length
  |_=>False
 |_=>True
def zah8(m:Nat->MS)(sz:Nat)(x:A)(lo hi:Option Int)(mx:Option Int):Option (Prop×A):=
 match x,mx with
 | .sl es,none=>some (0<=lo.getD 0/\lo.getD 0<=hi.getD es.length/\hi.getD es.length<=es.length/\zH7 sz es,.sl ((es.take (hi.getD es.length).toNat).drop (lo.getD 0).toNat))
 | .full es,none=>some (0<=lo.getD 0/\lo.getD 0<=hi.getD es.length/\hi.getD es.length<=es.length/\zH7 sz es,.sl ((es.take (hi.getD es.length).toNat).drop (lo.getD 0).toNat))
 | .own y l n,none=>match m y with
  | .row r=>some (0<=lo.getD 0/\lo.getD 0<=hi.getD n/\hi.getD n<=n/\r.sz=sz,.own y (l+(lo.getD 0).toNat) ((hi.getD n).toNat-(lo.getD 0).toNat))
  |_=>none
 | .str s,none=>some (0<=lo.getD 0/\lo.getD 0<=hi.getD s.size/\hi.getD s.size<=s.size,.str (s.extract (lo.getD 0).toNat (hi.getD s.size).toNat))
 | .sl es,some m=>match hi with
  |some h=>some (0<=lo.getD 0/\lo.getD 0<=h/\h<=es.length/\h=m/\zH7 sz es,.full ((es.take h.toNat).drop (lo.getD 0).toNat))
  |none=>none
 | .full es,some m=>match hi with
  |some h=>some (0<=lo.getD 0/\lo.getD 0<=h/\h<=es.length/\h=m/\zH7 sz es,.full ((es.take h.toNat).drop (lo.getD 0).toNat))
  |none=>none
 | .own y l n,some q=>match hi,m y with
  |some h,.row r=>some (0<=lo.getD 0/\lo.getD 0<=h/\h<=n/\h=q/\r.sz=sz,.own y (l+(lo.getD 0).toNat) (h.toNat-(lo.getD 0).toNat))
  |_,_=>none
 |_,_=>none
def laid:List A->List (Nat×Nat)->List A->List A
 |z,p::ps,x::xs=>laid (upd z p.1 x.cells) ps xs
 |z,_,_=>z
def zbf7(n:Nat):List (Nat×Nat)->List A->Prop
 |p::ps,x::xs=>x.isV=true/\x.cells.length=p.2/\p.1+p.2<=n/\zbf7 n ps xs
 |[],[]=>True
 |_,_=>False
def allV:List A->Bool
 |[]=>true
 |x::xs=>x.isV&&allV xs
def zx0:List A->List (List A)
 |[]=>[]
 |x::xs=>x.cells::zx0 xs
def A.isStr:A->Bool
 | .str _=>true
 |_=>false
def A.isK:A->Bool
 | .bool _|.int _ _|.str _|.sl _|.full _|.own _ _ _|.ptr _ _ _=>true
 | .clo _ []|.bnd _ _|.ival _ _=>true
 |_=>false
def allK:List A->Bool
 |[]=>true
 |x::xs=>x.isK&&allK xs
def A.pure1:A->Bool
 | .bool _|.int _ _|.str _|.sl _|.full _|.clo _ []|.bnd _ _|.ival _ _|.agg _=>true
 |_=>false
def zaI5:List A->Bool
 |[]=>true
 |c::cs=>c.pure1&&zaI5 cs
def zN4(es:List (List A)):Prop:=∀c∈es,∀a∈c,A.pure1 a=true
def u8s:List (List A)->Option (List Int)
 |[]=>some []
 |[.int .u8 n]::cs=>(u8s cs).map (n::·)
 |_=>none
def zaQ2(l:List Int):ByteArray:=⟨(l.map λ n=>UInt8.ofNat n.toNat).toArray⟩
def eqK:A->A->Bool
 | .agg a,.agg b=>eqA a b
 |a,b=>eq1 a b
def zaa4(k:A):List (List A)->Option (List A)
 |[]=>none
 |c::es=>bif eqK k (c.headD .any)then some c.tail else zaa4 k es
def mins(k:A)(v:List A):List (List A)->List (List A)
 |[]=>[k::v]
 |c::es=>bif eqK k (c.headD .any)then(k::v)::es else c::mins k v es
def zbx7(es:List (List A)):Option (Nat×Nat):=match es.head?,es.tail.getLast? with
 |some [.mp y,.int _ _],some [.int _ i]=>some (y,i.toNat)
 |_,_=>none
def mEnt(z:List A)(c:List A):List A:=[c.headD .any,zP9 (match z.getD 1 .any with|.bool ag=>ag|_=>false) c.tail]
def mval(ag:Bool)(z:List A)(o:Option (List A)):A:=zP9 ag (o.getD z)
def A.isAg:A->Bool
 | .agg _=>true
 |_=>false
def ev(id:Nat)(m:Nat->MS):PO->List A->Option Ef
 | .mv,[x]=>some ⟨True,x,[]⟩
 | .nilown sz z,[_]=>some ⟨0<sz,.own id 0 0,[(id,.row ⟨false,sz,z,[]⟩)]⟩
 | .box n,[x]=>some ⟨x.isV=true/\0<n/\x.cells.length=n,.ptr id 0 0,[(id,.row ⟨false,n,x.cells,[x.cells]⟩)]⟩
 | .alloc n z,[]=>some ⟨0<n/\z.length=n,.ptr id 0 0,[(id,.row ⟨false,n,z,[z]⟩)]⟩
 | .build z ps,xs=>some ⟨zbf7 z.length ps xs,.agg (laid z ps xs),[]⟩
 | .bslice sz _,xs=>some ⟨0<sz/\allV xs=true/\zH7 sz (zx0 xs)/\zN4 (zx0 xs)/\xs.length*sz<=16777216,.full (zx0 xs),[]⟩
 | .bown sz z,xs=>some ⟨0<sz/\allV xs=true/\zH7 sz (zx0 xs)/\xs.length*sz<=16777216,.own id 0 xs.length,[(id,.row ⟨false,sz,z,zx0 xs⟩)]⟩
 | .load n ag,[x]=>
  match x with
  | .ptr y i j=>match m y with
   | .row r=>some ⟨i<r.es.length/\j+n<=r.sz,zP9 ag (sub (r.es.getD i r.z) j n),[]⟩
   |_=>none
  | .rd cs off=>some ⟨off+n<=cs.length,zP9 ag (sub cs off n),[]⟩
  |_=>none
 | .store n,[p,x]=>
  match p with
  | .ptr y i j=>match m y with
   | .row r=>some ⟨r.ro=false/\x.isV=true/\i<r.es.length/\j+n<=r.sz/\x.cells.length=n,.any,
     [(y,.row ⟨r.ro,r.sz,r.z,r.es.set i (upd (r.es.getD i r.z) j x.cells)⟩)]⟩
   |_=>none
  |_=>none
 | .bin op,[x,y]=>(zbo1 op x y).map λ q=>⟨q.1,q.2,[]⟩
 | .eqb neg,[.bool x,.bool y]=>some ⟨True,.bool (if neg then !decide (x=y)else decide (x=y)),[]⟩
 | .eqa neg ks,[.agg xs,.agg ys]=>some ⟨zo2 ks xs=true/\zo2 ks ys=true,.bool (if neg then !eqA xs ys else eqA xs ys),[]⟩
 | .not,[.bool x]=>some ⟨True,.bool (!x),[]⟩
 | .neg,[.int k n]=>some ⟨True,.int k (k.wrap (0-n)),[]⟩
 | .field off n ag,[.agg cs]=>some ⟨off+n<=cs.length,zP9 ag (sub cs off n),[]⟩
 | .faddr off,[x]=>
  match x with
  | .ptr y i j=>match m y with
   | .row _=>some ⟨True,.ptr y i (j+off),[]⟩
   |_=>none
  | .rd cs o=>some ⟨True,.rd cs (o+off),[]⟩
  |_=>none
 | .iaA n sz,[x,.int _ k]=>
  match x with
  | .ptr y i j=>match m y with
   | .row _=>some ⟨0<=k/\k<n,.ptr y i (j+zF8 k.toNat n*sz),[]⟩
   |_=>none
  | .rd cs o=>some ⟨0<=k/\k<n,.rd cs (o+zF8 k.toNat n*sz),[]⟩
  |_=>none
 | .iaS sz z,[x,.int _ k]=>
  match x with
  | .sl es=>some ⟨0<=k/\k<es.length/\(es.getD k.toNat z).length=sz,.rd (es.getD k.toNat z) 0,[]⟩
  | .full es=>some ⟨0<=k/\k<es.length/\(es.getD k.toNat z).length=sz,.rd (es.getD k.toNat z) 0,[]⟩
  | .own y lo n=>match m y with
   | .row r=>some ⟨0<=k/\k<n/\r.sz=sz,.ptr y (lo+k.toNat) 0,[]⟩
   |_=>none
  |_=>none
 | .idxA n sz ag,[.agg cs,.int _ k]=>some ⟨0<=k/\k<n/\n*sz=cs.length,zP9 ag (sub cs (zF8 k.toNat n*sz) sz),[]⟩
 | .idxS,[.str s,.int _ k]=>some ⟨0<=k/\k<s.size,.int .u8 (s.toList.getD k.toNat 0).toNat,[]⟩
 | .slc sz false false false,[x]=>if x.isStr then none else(zah8 m sz x none none none).map λ q=>⟨q.1,q.2,[]⟩
 | .slc sz true false false,[x,.int _ l]=>if x.isStr then none else(zah8 m sz x (some l) none none).map λ q=>⟨q.1,q.2,[]⟩
 | .slc sz false true false,[x,.int _ h]=>if x.isStr then none else(zah8 m sz x none (some h) none).map λ q=>⟨q.1,q.2,[]⟩
 | .slc sz true true false,[x,.int _ l,.int _ h]=>if x.isStr then none else(zah8 m sz x (some l) (some h) none).map λ q=>⟨q.1,q.2,[]⟩
 | .slc sz false true true,[x,.int _ h,.int _ c]=>if x.isStr then none else(zah8 m sz x none (some h) (some c)).map λ q=>⟨q.1,q.2,[]⟩
 | .slc sz true true true,[x,.int _ l,.int _ h,.int _ c]=>if x.isStr then none else(zah8 m sz x (some l) (some h) (some c)).map λ q=>⟨q.1,q.2,[]⟩
 | .slcS false false,[.str s]=>(zah8 m 0 (.str s) none none none).map λ q=>⟨q.1,q.2,[]⟩
 | .slcS true false,[.str s,.int _ l]=>(zah8 m 0 (.str s) (some l) none none).map λ q=>⟨q.1,q.2,[]⟩
 | .slcS false true,[.str s,.int _ h]=>(zah8 m 0 (.str s) none (some h) none).map λ q=>⟨q.1,q.2,[]⟩
 | .slcS true true,[.str s,.int _ l,.int _ h]=>(zah8 m 0 (.str s) (some l) (some h) none).map λ q=>⟨q.1,q.2,[]⟩
 | .ext i,[.tup vs]=>some ⟨i<vs.length,vs.getD i .any,[]⟩
 | .len,[x]=>
  match x with
  | .sl es=>some ⟨True,.int .i64 es.length,[]⟩
  | .full es=>some ⟨True,.int .i64 es.length,[]⟩
  | .own y _ n=>match m y with
   | .row _=>some ⟨True,.int .i64 n,[]⟩
   |_=>none
  |_=>none
 | .lenS,[.str s]=>some ⟨True,.int .i64 s.size,[]⟩
 | .append sz bytes z,[b,x]=>
  (zao0 m x).bind λ new=>
  match b with
  | .full es=>some ⟨0<sz/\(es=[]\/new≠[])/\zH7 sz es/\zY6 m x/\zH7 sz new/\(es.length+new.length)*bytes<=140737488355328/\es.length+new.length<=maxLen,.own id 0 (es.length+new.length),[(id,.row ⟨false,sz,z,es++new⟩)]⟩
  | .own y lo n=>match m y with
   | .row r=>some ⟨r.ro=false/\lo=0/\n=r.es.length/\r.sz=sz/\zY6 m x/\zH7 sz new/\(n+new.length)*bytes<=140737488355328/\n+new.length<=maxLen,
     .own id 0 (n+new.length),[(y,.dead),(id,.row ⟨false,sz,r.z,r.es++new⟩)]⟩
   |_=>none
  |_=>none
 | .appc sz bytes,[b,x]=>
  (zao0 m x).bind λ new=>
  match b with
  | .own y lo n=>match m y with
   | .row r=>some ⟨r.ro=false/\lo=0/\n<=r.es.length/\r.sz=sz/\zY6 m x/\zH7 sz new/\(n+new.length)*bytes<=140737488355328/\n+new.length<=maxLen,
     .own id 0 (n+new.length),[(y,.dead),(id,.row ⟨false,sz,r.z,r.es.take n++new⟩)]⟩
   |_=>none
  |_=>none
 | .apl sz bytes,[.full es0,.sl es]=>some ⟨0<sz/\es0=[]/\zH7 sz es/\es.length*bytes<=140737488355328/\es.length<=maxLen,.sl es,[]⟩
 | .copy sz,[d,x]=>
  (zao0 m x).bind λ new=>
  match d with
  | .own y lo n=>match m y with
   | .row r=>some ⟨r.ro=false/\r.sz=sz/\lo+n<=r.es.length/\zY6 m x/\zH7 sz new,.int .i64 (Nat.min new.length n),
     [(y,.row ⟨false,sz,r.z,r.es.take lo++new.take n++r.es.drop (lo+Nat.min new.length n)⟩)]⟩
   |_=>none
  |_=>none
 | .clear sz z,[d]=>
  match d with
  | .own y lo n=>match m y with
   | .row r=>some ⟨r.ro=false/\r.sz=sz/\lo+n<=r.es.length,.any,[(y,.row ⟨false,sz,r.z,r.es.take lo++List.replicate n z++r.es.drop (lo+n)⟩)]⟩
   |_=>none
  |_=>none
 | .mk sz bytes z,[.int _ l,.int _ c]=>
  some ⟨0<sz/\z.length=sz/\0<=l/\l<=c/\c*bytes<=140737488355328/\c<=maxLen,.own id 0 l.toNat,[(id,.row ⟨false,sz,z,List.replicate l.toNat z⟩)]⟩
 | .conv k,[.int _ n]=>some ⟨True,.int k (k.wrap n),[]⟩
 | .cvS,[x]=>if x.isStr then none else(zao0 m x).bind λ es=>(u8s es).bind λ l=>some ⟨zY6 m x,.str (zaQ2 l),[]⟩
 | .cvB,[.str s]=>some ⟨s.size<=maxLen,.sl (s.toList.map λ b=>[A.int .u8 b.toNat]),[]⟩
 | .min,[.int k x,.int k' y]=>some ⟨k=k',.int k (if y<x then y else x),[]⟩
 | .max,[.int k x,.int k' y]=>some ⟨k=k',.int k (if x<y then y else x),[]⟩
 | .nilck,[x]=>
  match x with
  | .ptr y _ _=>match m y with
   | .row _=>some ⟨True,x,[]⟩
   |_=>none
  | .rd _ _=>some ⟨True,x,[]⟩
  | .clo f _=>some ⟨(f==zF2)=false,x,[]⟩
  | .bnd _ _=>some ⟨True,x,[]⟩
  |_=>none
 | .mki t,[x]=>
  match x with
  | .ptr y i j=>match m y with
   | .row _=>some ⟨True,.ipt t y i j,[]⟩
   |_=>none
  | .agg cs=>some ⟨zaI5 cs=true,.ival t cs,[]⟩
  |_=>none
 | .tas t,[.ival t' cs]=>some ⟨t'=t,.agg cs,[]⟩
 | .mkb f,[.agg cs]=>some ⟨zaI5 cs=true,.bnd f cs,[]⟩
 | .mkf f,xs=>some ⟨allK xs=true,.clo f xs,[]⟩
 | .mkmap z,[]=>some ⟨True,.mp id,[(id,.row ⟨false,0,z,[]⟩)]⟩
 | .lkp ok ag kz z,[.mp y,k]=>match m y with
  | .row r=>some ⟨r.z=[kz,.bool ag]/\zC9 kz k=true,if ok then .tup [mval ag z (zaa4 k r.es),.bool (zaa4 k r.es).isSome]else mval ag z (zaa4 k r.es),[]⟩
  |_=>none
 | .mupd kz ag n,[.mp y,k,v]=>match m y with
  | .row r=>some ⟨r.ro=false/\r.z=[kz,.bool ag]/\zC9 kz k=true/\v.isV=true/\v.isAg=ag/\v.cells.length=n/\zN4 [v.cells],.any,[(y,.row ⟨false,0,r.z,mins k v.cells r.es⟩)]⟩
  |_=>none
 | .lenM,[.mp y]=>match m y with
  | .row r=>some ⟨r.z≠[],.int .i64 r.es.length,[]⟩
  |_=>none
 | .rng,[.mp y]=>match m y with
  | .row r=>some ⟨r.z≠[],.it id,[(id,.row ⟨false,0,[],[[.mp y,.int .i64 r.es.length]]⟩)]⟩
  |_=>none
 |_,_=>none
structure S where
 fr:Nat->A
 mem:Nat->MS
def zaI6(D:Nat):Deferred:={target:=.collected D,args:=#[]}
def zaI7(df:Bool)(n0:Nat)(w:World)(W:Nat->Prop)(μ:Nat->Loc)(ds:List Deferred):Prop:=
 ∃Ds:List Nat,ds=Ds.map zaI6/\(df=false->Ds=[])/\Ds.Nodup/\∀D∈Ds,W D/\n0<=D/\w.heap[D]? =some (.deferred (some []))/\∀y k,μ y=.at_ k->k.b≠D
theorem zaI7.none{df:Bool}{n0:Nat}{w:World}{W:Nat->Prop}{μ:Nat->Loc}:zaI7 df n0 w W μ []:=⟨[],rfl,λ _=>rfl,.nil,by simp⟩
theorem zaI7.nil{n0:Nat}{w:World}{W:Nat->Prop}{μ:Nat->Loc}{ds:List Deferred}(h:zaI7 false n0 w W μ ds):ds=[]:=by obtain⟨Ds,h1,h2,_⟩:=h;rw[h1,h2 rfl];rfl
structure Env where
 w0:World
 Win:Nat->Prop
 Mb:Nat->Prop
 N:Nat
 G:zaI4
 k0:Nat
 μ0:Nat->Loc
 df:Bool
structure SatW (E:Env) (s:S) (a:Act) (w:World) (W:Nat->Prop) (μ:Nat->Loc):Prop where
 defers:zaI7 E.df E.w0.heap.size w W μ a.defers
 size:a.tmps.size=E.N
 fr:∀t,Rep w W μ (a.tmps.getD t undef) (s.fr t)
 mem:zac5 w W μ s.mem
 inj:∀x y k k',μ x=.at_ k->μ y=.at_ k'->k.b=k'.b->x=y
 keeps:Keeps E.Mb E.w0 w
 winlt:∀b,E.Win b->b<E.w0.heap.size
 wsub:∀b,W b->E.Win b\/E.w0.heap.size<=b
 wsup:∀b,E.Win b->W b\/E.Mb b
 wlt:∀b,W b->b<w.heap.size
 live:∀x k,μ x=.at_ k->E.Mb k.b\/E.w0.heap.size<=k.b
 glob:zaq7 w W E.G
 fix:∀x,x<E.k0->(μ x=E.μ0 x/\μ x≠.fresh)\/μ x=.dead
def Sat(E:Env)(s:S)(a:Act)(w:World):Prop:=∃W μ,SatW E s a w W μ
def setM(m:Nat->MS):List (Nat×MS)->Nat->MS
 |[]=>m
 |q::r=>setM (λ x=>if x=q.1 then q.2 else m x) r
def setF(f:Nat->A)(d:Option Nat)(a:A):Nat->A:=λ t=>if d=some t then a else f t
structure Step (m m':Nat->MS) (w w':World) (W W':Nat->Prop) (μ μ':Nat->Loc):Prop where
 keeps:Keeps (λ b=>W b/\∃y k,μ y=.at_ k/\k.b=b) w w'
 hW:∀b,b<w.heap.size->W' b->W b
 wsup:∀b,W b->W' b\/∃y k,μ y=.at_ k/\k.b=b
 wlt0:∀b,W b->b<w.heap.size
 wlt:∀b,W' b->b<w'.heap.size
 old:Old μ μ'
 mem:zac5 w' W' μ' m'
 inj:∀x y k k',μ' x=.at_ k->μ' y=.at_ k'->k.b=k'.b->x=y
 live:∀x k,μ' x=.at_ k->(∃y k',μ y=.at_ k'/\k'.b=k.b)\/w.heap.size<=k.b
theorem Rep.step{m m':Nat->MS}{w w':World}{W W':Nat->Prop}{μ μ':Nat->Loc}(h:Step m m' w w' W W' μ μ'){v:Value}{a:A}(hr:Rep w W μ v a):Rep w' W' μ' v a:=
 hr.goes h.keeps (λ _ _ h1 h2=>h1 h2.1) (λ b hb h1 h2=>h1 (h.hW b hb h2)) h.old
theorem RepK.step{m m':Nat->MS}{w w':World}{W W':Nat->Prop}{μ μ':Nat->Loc}(h:Step m m' w w' W W' μ μ'){v:Value}{a:A}(hr:RepK w W μ v a):RepK w' W' μ' v a:=
 hr.goes h.keeps (λ _ _ h1 h2=>h1 h2.1) (λ b hb h1 h2=>h1 (h.hW b hb h2)) h.old
theorem zbU3(a:Act)(d:Option Nat)(v:Value)(t:Nat)(hd:∀x,d=some x->x<a.tmps.size):
  (a.put d v).tmps.getD t undef=if d=some t then v else a.tmps.getD t undef:=by
 cases d with
 |none=>simp[Act.put]
 |some x=>
  have hx:=hd x rfl;simp only[Act.put,eJ]
  by_cases h:x=t
  .subst h;simp[hx]
  .simp only[cL h,eR,fM h]
theorem SatW.step{E:Env}{s:S}{a:Act}{w w':World}{W W':Nat->Prop}{μ μ':Nat->Loc}(hs:SatW E s a w W μ){m':Nat->MS}(h:Step s.mem m' w w' W W' μ μ')
  {d:Option Nat} {v:Value} {av:A} (hd:∀x,d=some x->x<E.N) (hv:Rep w' W' μ' v av):SatW E ⟨setF s.fr d av,m'⟩ (a.put d v) w' W' μ' where
 defers:=by
  obtain⟨Ds,h1,h2,h3,h4⟩:=hs.defers;refine⟨Ds,by cases d<;>exact h1,h2,h3,λ D hD=>?_⟩;obtain⟨g1,g2,g3,g4⟩:=h4 D hD;have hlt:=hs.wlt D g1;refine⟨(h.wsup D g1).resolve_right λ⟨y,k,hy,he⟩=>g4 y k hy he,g2,(h.keeps.block D hlt λ⟨_,y,k,hy,he⟩=>g4 y k hy he).trans g3,λ y k hy he=>?_⟩;rcases h.live y k hy with⟨z,k',hz,he'⟩|h1
  .exact g4 z k' hz (he'.trans he)
  .omega
 size:=by have:=hs.size;cases d<;>simp[Act.put,this]
 fr:=λ t=>by
  rw[zbU3 a d v t (λ x hx=>by rw[hs.size];exact hd x hx)];simp only[setF];split
  .exact hv
  .exact(hs.fr t).step h
 mem:=h.mem
 inj:=h.inj
 keeps:=hs.keeps.trans h.keeps (λ x hx hh=>by
  obtain⟨_,y,k,hy,rfl⟩:=hh;rcases hs.live y k hy with h1|h1
  .exact h1
  .omega)
 winlt:=hs.winlt
 wsub:=λ b hb=>by
  by_cases hlt:b<w.heap.size
  .exact hs.wsub b (h.hW b hlt hb)
  .have:=hs.keeps.size;exact .inr (by omega)
 wsup:=λ b hb=>by
  rcases hs.wsup b hb with h1|h1
  .rcases h.wsup b h1 with h2|⟨y,k,hy,rfl⟩
   .exact .inl h2
   .rcases hs.live y k hy with h3|h3
    .exact .inr h3
    .have:=hs.winlt _ hb;omega
  .exact .inr h1
 wlt:=h.wlt
 live:=λ x k hx=>by
  rcases h.live x k hx with⟨y,k',hy,he⟩|h1
  .rw[<-he];exact hs.live y k' hy
  .have:=hs.keeps.size;exact .inr (by omega)
 glob:=λ g cs hg=>by
  obtain⟨h1,h2,h3⟩:=hs.glob g cs hg;refine⟨λ hh=>h1 (h.hW g h2 hh),cR h2 h.keeps.size,λ j a hj=>?_⟩;obtain⟨u,hu,hr⟩:=h3 j a hj;exact⟨u,(World.cell?_of_block (w:=w) (h.keeps.block g h2 (λ hh=>h1 hh.1))).trans hu,
   hr.keep h.keeps (λ _ _ h1 h2=>h1 h2.1) (λ b hb h1 h2=>h1 (h.hW b hb h2))⟩
 fix:=λ x hx=>by
  rcases hs.fix x hx with⟨h1,h2⟩|h1
  .rcases h.old x h2 with e|e
   .exact .inl ⟨e.trans h1,by rw[e];exact h2⟩
   .exact .inr e
  .rcases h.old x (by rw[h1];simp)with e|e
   .exact .inr (e.trans h1)
   .exact .inr e
section
variable {w w':World} {W W':Nat→Prop} {μ μ':Nat→Loc} {m:Nat→MS}
theorem zaz2.goes{D:Nat->Prop}{r:Row}{k:Blk}(hk:Keeps D w w')(hD:∀b,b<w.heap.size->¬W b->¬D b)(hW:∀b,b<w.heap.size->¬W b->¬W' b)(ho:Old μ μ')
  (hb:¬D k.b) (hw:W k.b->W' k.b) (h:zaz2 w W μ r k):zaz2 w' W' μ' r k:=by
 obtain⟨h1,h2,h3,us,rest,e,h4,h5,h6⟩:=h;refine⟨λ hr=>hw (h1 hr),h2,h3,us,rest,e,?_,h5,h6.mono λ u a hr=>hr.goes hk hD hW ho⟩;rw[hk.block k.b (cO.1 h4).1 hb];exact h4
theorem RepX.keep{D:Nat->Prop}{ag:Bool}{v:Value}{cs:List A}(hk:Keeps D w w')(hD:∀b,b<w.heap.size->¬W b->¬D b)(hW:∀b,b<w.heap.size->¬W b->¬W' b)(h:RepX w W ag v cs):RepX w' W' ag v cs:=by
 unfold RepX at*;split
 .rename_i ha;rw[cQ ha]at h;obtain⟨vs,h1,h2,h3⟩:=h;exact⟨vs,h1,h2,λ i u a x y=>(h3 i u a x y).keep hk hD hW⟩
 .rename_i ha;rw[cL ha]at h;obtain⟨a,h1,h2⟩:=h;exact⟨a,h1,h2.keep hk hD hW⟩
theorem RepY.keep{D:Nat->Prop}{v:Value}{a:A}(hk:Keeps D w w')(hD:∀b,b<w.heap.size->¬W b->¬D b)(hW:∀b,b<w.heap.size->¬W b->¬W' b)(h:RepY w W v a):RepY w' W' v a:=by
 cases a with
 |agg cs=>obtain⟨vs,h1,h2,h3⟩:=h;exact⟨vs,h1,h2,λ i u a x y=>(h3 i u a x y).keep hk hD hW⟩
 |_=>exact RepC.keep hk hD hW h
theorem zaq6.keep{D:Nat->Prop}{z:List A}{i:Nat}{e:MapEntry}{c:List A}(hk:Keeps D w w')(hD:∀b,b<w.heap.size->¬W b->¬D b)(hW:∀b,b<w.heap.size->¬W b->¬W' b)(h:zaq6 w W z i e c):zaq6 w' W' z i e c:=by obtain⟨h0,k,cs,ag,h1,h2,h3,h4,h5⟩:=h;exact⟨h0,k,cs,ag,h1,h2,h3,h4.keep hk hD hW,h5.keep hk hD hW⟩
theorem zaT6.goes{D:Nat->Prop}{r:Row}{k:Blk}(hk:Keeps D w w')(hD:∀b,b<w.heap.size->¬W b->¬D b)(hW:∀b,b<w.heap.size->¬W b->¬W' b)
  (hb:¬D k.b) (hw:W k.b->W' k.b) (h:zaT6 w W r k):zaT6 w' W' r k:=by
 obtain⟨h1,h2,h3,es,h4,h5,h6⟩:=h;refine⟨λ hr=>hw (h1 hr),h2,h3,es,?_,h5,λ i e c x y=>(h6 i e c x y).keep hk hD hW⟩;rw[hk.block k.b (cO.1 h4).1 hb];exact h4
theorem ItOk.goes{D:Nat->Prop}{r:Row}{k:Blk}(hk:Keeps D w w')(hD:∀b,b<w.heap.size->¬W b->¬D b)(hW:∀b,b<w.heap.size->¬W b->¬W' b)(ho:Old μ μ')
  (hb:¬D k.b) (hw:W k.b->W' k.b) (h:ItOk w W μ r k):ItOk w' W' μ' r k:=by
 obtain⟨h1,h2,h3,hz,y,b,c,seen,h4,h5,h6⟩:=h;refine⟨λ hr=>hw (h1 hr),h2,h3,hz,y,b,c,seen,h4,h5.goes hk hD hW ho,?_⟩;rw[hk.block k.b (cO.1 h6).1 hb];exact h6
theorem zN2.goes{D:Nat->Prop}{r:Row}{k:Blk}(hk:Keeps D w w')(hD:∀b,b<w.heap.size->¬W b->¬D b)(hW:∀b,b<w.heap.size->¬W b->¬W' b)(ho:Old μ μ')
  (hb:¬D k.b) (hw:W k.b->W' k.b) (h:zN2 w W μ r k):zN2 w' W' μ' r k:=h.imp (zaz2.goes hk hD hW ho hb hw) (.imp (zaT6.goes hk hD hW hb hw) (ItOk.goes hk hD hW ho hb hw))
theorem zN2.lt{r:Row}{k:Blk}(h:zN2 w W μ r k):k.b<w.heap.size:=by rcases h with⟨_,_,_,us,rest,e,h4,_⟩|⟨_,_,_,es,h4,_⟩|⟨_,_,_,_,y,b,c,seen,_,_,h4⟩<;>exact(cO.1 h4).1
theorem zN2.wr{r:Row}{k:Blk}(h:zN2 w W μ r k):(r.ro=false->W k.b)/\k.sz=r.sz:=by rcases h with h|h|h<;>exact⟨h.1,h.2.1⟩
theorem zV7.goes{D:Nat->Prop}{x:Nat}{q:MS}(hk:Keeps D w w')(hD:∀b,b<w.heap.size->¬W b->¬D b)(hW:∀b,b<w.heap.size->¬W b->¬W' b)(ho:Old μ μ')
  (hx:μ' x=μ x) (hb:∀k,μ x=.at_ k->¬D k.b) (hw:∀b,W b->W' b) (h:zV7 w W μ x q):zV7 w' W' μ' x q:=by
 cases q with
 |fresh=>exact hx.trans h
 |dead=>exact hx.trans h
 |row r=>
  rcases h with⟨h1,h2⟩|⟨k,h1,h2⟩
  .exact .inl ⟨hx.trans h1,h2⟩
  .exact .inr ⟨k,hx.trans h1,h2.goes hk hD hW ho (hb k h1) (hw _)⟩
theorem zac5.at_(h:zac5 w W μ m){x:Nat}{k:Blk}(hx:μ x=.at_ k):∃r,m x=.row r/\zN2 w W μ r k:=by
 have:=h x;cases hr:m x with
 |fresh=>rw[hr]at this;exact absurd (hx.symm.trans this) (by simp)
 |dead=>rw[hr]at this;exact absurd (hx.symm.trans this) (by simp)
 |row r=>
  rw[hr]at this;rcases this with⟨h1,_⟩|⟨k',h1,h2⟩
  .rw[hx]at h1;cases h1
  .rw[hx]at h1;cases h1;exact⟨r,rfl,h2⟩
theorem Step.quiet(hk:Keeps (λ _=>False) w w')(hm:zac5 w W μ m)(hi:∀x y k k',μ x=.at_ k->μ y=.at_ k'->k.b=k'.b->x=y)(hl:∀b,W b->b<w.heap.size):
  Step m m w w' W W μ μ where
 keeps:=hk.mono λ _ _ h=>h.elim
 hW:=λ _ _ h=>h
 wsup:=λ _ h=>.inl h
 wlt:=λ b h=>cR (hl b h) hk.size
 old:=Old.refl μ
 wlt0:=hl
 mem:=λ x=>(hm x).goes hk (λ _ _ _ h=>h) (λ _ _ h=>h) (Old.refl μ) rfl (λ _ _ h=>h) (λ _ h=>h)
 inj:=hi
 live:=λ x k h=>.inl ⟨x,k,h,rfl⟩
theorem Step.new(hm:zac5 w W μ m)(hi:∀x y k k',μ x=.at_ k->μ y=.at_ k'->k.b=k'.b->x=y)(hl:∀b,W b->b<w.heap.size)
  {id:Nat} (hid:m id=.fresh) {r:Row} {us rest:List Value} {e:TypeId} (hz:0<r.sz) (hk:Keeps (λ _=>False) w w') (hf:Flat (RepK w W μ) r.sz us r.es)
  (hh:w'.heap[w.heap.size]? =some (.cells (us++rest).toArray e (0,0))):
  Step m (setM m [(id,.row r)]) w w' W (λ b=>W b\/b=w.heap.size) μ (λ x=>if x=id then .at_ ⟨w.heap.size,r.sz,us.length+rest.length⟩else μ x):=by
 have hfr:μ id=.fresh:=by have:=hm id;rw[hid]at this;exact this
 have hold:Old μ (λ x=>if x=id then .at_ ⟨w.heap.size,r.sz,us.length+rest.length⟩else μ x):=λ x hx=>by
  by_cases h:x=id
  .subst h;exact absurd hfr hx
  .exact .inl (by simp[h])
 have hlt:w.heap.size<w'.heap.size:=(cO.1 hh).1;refine⟨hk.mono λ _ _ h=>h.elim,λ b hb h=>?_,λ b h=>.inl (.inl h),hl,λ b h=>?_,hold,λ x=>?_,λ x y k k' hx hy he=>?_,λ x k hx=>?_⟩
 .rcases h with h|h
  .exact h
  .omega
 .rcases h with h|h
  .exact cR (hl b h) hk.size
  .omega
 .simp only[setM]
  by_cases h:x=id
  .subst h;simp only[dM];exact .inr ⟨⟨w.heap.size,r.sz,us.length+rest.length⟩,by simp,.inl ⟨λ _=>.inr rfl,rfl,hz,us,rest,e,hh,rfl,hf.mono λ u a hr=>hr.goes hk (λ _ _ _ h=>h) (λ b hb h1 h2=>h2.elim h1 (by omega)) hold⟩⟩
  .simp only[cL h];exact(hm x).goes hk (λ _ _ _ h=>h) (λ b hb h1 h2=>h2.elim h1 (by omega)) hold (by simp[h]) (λ _ _ h=>h) (λ _ h=>.inl h)
 .have big:∀z kz,μ z=.at_ kz->kz.b<w.heap.size:=λ z kz hz=>by obtain⟨_,_,h⟩:=hm.at_ hz;exact h.lt
  try simp only at hx hy
  split at hx<;>split at hy
  .subst_vars;rfl
  .cases hx;have:=big _ _ hy;simp only at he;omega
  .cases hy;have:=big _ _ hx;simp only at he;omega
  .exact hi x y k k' hx hy he
 .try simp only at hx
  split at hx
  .cases hx;exact .inr (cU _)
  .exact .inl ⟨x,k,hx,rfl⟩
theorem Step.newEmpty(hm:zac5 w W μ m)(hi:∀x y k k',μ x=.at_ k->μ y=.at_ k'->k.b=k'.b->x=y)(hl:∀b,W b->b<w.heap.size)
  {id:Nat} (hid:m id=.fresh) {r:Row} (hz:0<r.sz) (he:r.es=[]) (hk:Keeps (λ _=>False) w w'):
  Step m (setM m [(id,.row r)]) w w' W W μ (λ x=>if x=id then .empty else μ x):=by
 have hfr:μ id=.fresh:=by have:=hm id;rw[hid]at this;exact this
 have hold:Old μ (λ x=>if x=id then .empty else μ x):=λ x hx=>by
  by_cases h:x=id
  .subst h;exact absurd hfr hx
  .exact .inl (by simp[h])
 refine⟨hk.mono λ _ _ h=>h.elim,λ b hb h=>h,λ b h=>.inl h,hl,λ b h=>cR (hl b h) hk.size,hold,λ x=>?_,λ x y k k' hx hy he=>?_,λ x k hx=>?_⟩
 .simp only[setM]
  by_cases h:x=id
  .subst h;simp only[dM];exact .inl ⟨by simp,he,hz⟩
  .simp only[cL h];exact(hm x).goes hk (λ _ _ _ h=>h) (λ _ _ h=>h) hold (by simp[h]) (λ _ _ h=>h) (λ _ h=>h)
 .try simp only at hx hy
  split at hx<;>split at hy<;>first|(cases hx;done)|(cases hy;done)|exact hi x y k k' hx hy he
 .try simp only at hx
  split at hx
  .cases hx
  .exact .inl ⟨x,k,hx,rfl⟩
theorem Step.write(hm:zac5 w W μ m)(hi:∀x y k k',μ x=.at_ k->μ y=.at_ k'->k.b=k'.b->x=y)(hl:∀b,W b->b<w.heap.size)
  {x:Nat} {k:Blk} {r r':Row} (hx:μ x=.at_ k) (hr:m x=.row r) (hro:r.ro=false) (hsz:r'.sz=r.sz)
  {us rest:List Value} {e:TypeId} (hk:Keeps (λ b=>b=k.b) w w') (hf:Flat (RepK w W μ) r'.sz us r'.es)
  (hh:w'.heap[k.b]? =some (.cells (us++rest).toArray e (0,0))) (ht:us.length+rest.length=k.tot) (hpz:0<r.sz:=by first|assumption|omega|exact zaz2.pos' (by assumption)):
  Step m (setM m [(x,.row r')]) w w' W W μ μ:=by
 obtain⟨r0,h0,hrow⟩:=hm.at_ hx;rw[hr]at h0;cases h0;have hWk:W k.b:=hrow.wr.1 hro;have hD:∀b,b<w.heap.size->¬W b->¬b=k.b:=λ b _ h1 h2=>h1 (h2▸hWk);refine⟨hk.mono λ b _ h=>h▸⟨hWk,x,k,hx,rfl⟩,λ _ _ h=>h,λ _ h=>.inl h,hl,λ b h=>cR (hl b h) hk.size,Old.refl μ,λ y=>?_,hi,λ y k' h=>.inl ⟨y,k',h,rfl⟩⟩;simp only[setM]
 by_cases h:y=x
 .subst h;simp only[dM];exact .inr ⟨k,hx,.inl ⟨λ _=>hWk,hrow.wr.2.trans hsz.symm,hsz▸hpz,us,rest,e,hh,ht,hf.mono λ u a hr=>hr.goes hk hD (λ _ _ h=>h) (Old.refl μ)⟩⟩
 .simp only[cL h];exact(hm y).goes hk hD (λ _ _ h=>h) (Old.refl μ) rfl (λ k1 h1 he=>h (hi y x k1 k h1 hx he)) (λ _ h=>h)
theorem Step.newAny(hm:zac5 w W μ m)(hi:∀x y k k',μ x=.at_ k->μ y=.at_ k'->k.b=k'.b->x=y)(hl:∀b,W b->b<w.heap.size)
  {id:Nat} (hid:m id=.fresh) {r:Row} (hk:Keeps (λ _=>False) w w') (hlt:w.heap.size<w'.heap.size)
  (hA:zN2 w' (λ b=>W b\/b=w.heap.size) (λ x=>if x=id then .at_ ⟨w.heap.size,0,0⟩else μ x) r ⟨w.heap.size,0,0⟩):
  Step m (setM m [(id,.row r)]) w w' W (λ b=>W b\/b=w.heap.size) μ (λ x=>if x=id then .at_ ⟨w.heap.size,0,0⟩else μ x):=by
 have hfr:μ id=.fresh:=by have:=hm id;rw[hid]at this;exact this
 have hold:Old μ (λ x=>if x=id then .at_ ⟨w.heap.size,0,0⟩else μ x):=λ x hx=>by
  by_cases h:x=id
  .subst h;exact absurd hfr hx
  .exact .inl (by simp[h])
 refine⟨hk.mono λ _ _ h=>h.elim,λ b hb h=>?_,λ b h=>.inl (.inl h),hl,λ b h=>?_,hold,λ x=>?_,λ x y k k' hx hy he=>?_,λ x k hx=>?_⟩
 .rcases h with h|h
  .exact h
  .omega
 .rcases h with h|h
  .exact cR (hl b h) hk.size
  .omega
 .simp only[setM]
  by_cases h:x=id
  .subst h;simp only[dM];exact .inr ⟨⟨w.heap.size,0,0⟩,by simp,hA⟩
  .simp only[cL h];exact(hm x).goes hk (λ _ _ _ h=>h) (λ b hb h1 h2=>h2.elim h1 (by omega)) hold (by simp[h]) (λ _ _ h=>h) (λ _ h=>.inl h)
 .have big:∀z kz,μ z=.at_ kz->kz.b<w.heap.size:=λ z kz hz=>by obtain⟨_,_,h⟩:=hm.at_ hz;exact h.lt
  try simp only at hx hy
  split at hx<;>split at hy
  .subst_vars;rfl
  .cases hx;have:=big _ _ hy;simp only at he;omega
  .cases hy;have:=big _ _ hx;simp only at he;omega
  .exact hi x y k k' hx hy he
 .try simp only at hx
  split at hx
  .cases hx;exact .inr (cU _)
  .exact .inl ⟨x,k,hx,rfl⟩
theorem Step.newMap(hm:zac5 w W μ m)(hi:∀x y k k',μ x=.at_ k->μ y=.at_ k'->k.b=k'.b->x=y)(hl:∀b,W b->b<w.heap.size)
  {id:Nat} (hid:m id=.fresh) {z:List A} (hk:Keeps (λ _=>False) w w') (hh:w'.heap[w.heap.size]? =some (.map #[] 0)):
  Step m (setM m [(id,.row ⟨false,0,z,[]⟩)]) w w' W (λ b=>W b\/b=w.heap.size) μ (λ x=>if x=id then .at_ ⟨w.heap.size,0,0⟩else μ x):=
 Step.newAny hm hi hl hid hk (cO.1 hh).1 (.inr (.inl ⟨λ _=>.inr rfl,rfl,rfl,#[],hh,rfl,λ i e c h1 _=>by simp at h1⟩))
theorem Step.writeAny(hm:zac5 w W μ m)(hi:∀x y k k',μ x=.at_ k->μ y=.at_ k'->k.b=k'.b->x=y)(hl:∀b,W b->b<w.heap.size)
  {x:Nat} {k:Blk} {r r':Row} (hx:μ x=.at_ k) (hr:m x=.row r) (hro:r.ro=false) (hk:Keeps (λ b=>b=k.b) w w') (hA:zN2 w' W μ r' k):
  Step m (setM m [(x,.row r')]) w w' W W μ μ:=by
 obtain⟨r0,h0,hrow⟩:=hm.at_ hx;rw[hr]at h0;cases h0;have hWk:W k.b:=hrow.wr.1 hro;have hD:∀b,b<w.heap.size->¬W b->¬b=k.b:=λ b _ h1 h2=>h1 (h2▸hWk);refine⟨hk.mono λ b _ h=>h▸⟨hWk,x,k,hx,rfl⟩,λ _ _ h=>h,λ _ h=>.inl h,hl,λ b h=>cR (hl b h) hk.size,Old.refl μ,λ y=>?_,hi,λ y k' h=>.inl ⟨y,k',h,rfl⟩⟩;simp only[setM]
 by_cases h:y=x
 .subst h;simp only[dM];exact .inr ⟨k,hx,hA⟩
 .simp only[cL h];exact(hm y).goes hk hD (λ _ _ h=>h) (Old.refl μ) rfl (λ k1 h1 he=>h (hi y x k1 k h1 hx he)) (λ _ h=>h)
theorem Step.writeMap(hm:zac5 w W μ m)(hi:∀x y k k',μ x=.at_ k->μ y=.at_ k'->k.b=k'.b->x=y)(hl:∀b,W b->b<w.heap.size)
  {x:Nat} {k:Blk} {r r':Row} (hx:μ x=.at_ k) (hr:m x=.row r) (hro:r.ro=false) (hsz:r.sz=0) (hsz':r'.sz=0) (hz:r'.z=r.z)
  {es:Array MapEntry} (hk:Keeps (λ b=>b=k.b) w w') (hh:w'.heap[k.b]? =some (.map es es.size)) (hn:es.size=r'.es.length)
  (he:∀(i:Nat) (e:MapEntry) (c:List A),es[i]? =some e->r'.es[i]? =some c->zaq6 w W r.z i e c):
  Step m (setM m [(x,.row r')]) w w' W W μ μ:=by
 obtain⟨r0,h0,hrow⟩:=hm.at_ hx;rw[hr]at h0;cases h0;have hWk:W k.b:=hrow.wr.1 hro;exact Step.writeAny hm hi hl hx hr hro hk (.inr (.inl ⟨λ _=>hWk,by rw[hrow.wr.2,hsz,hsz'],hsz',es,hh,hn,λ i e c x1 x2=>by
  rw[hz];exact(he i e c x1 x2).keep hk (λ b _ h1 h2=>h1 (h2▸hWk)) (λ _ _ h=>h)⟩))
theorem Step.kill(hm:zac5 w W μ m)(hi:∀x y k k',μ x=.at_ k->μ y=.at_ k'->k.b=k'.b->x=y)(hl:∀b,W b->b<w.heap.size){x:Nat}:
  Step m (setM m [(x,.dead)]) w w W W μ (λ y=>if y=x then .dead else μ y):=by
 have hold:Old μ (λ y=>if y=x then .dead else μ y):=λ y hy=>by
  by_cases h:y=x
  .exact .inr (by simp[h])
  .exact .inl (by simp[h])
 refine⟨Keeps.refl _ w,λ _ _ h=>h,λ _ h=>.inl h,hl,hl,hold,λ y=>?_,λ y z k k' hy hz he=>?_,λ y k hy=>?_⟩
 .simp only[setM]
  by_cases h:y=x
  .simp only[cQ h,zV7]
  .simp only[cL h];exact(hm y).goes (Keeps.refl (λ _=>False) w) (λ _ _ _ h=>h) (λ _ _ h=>h) hold (by simp[h]) (λ _ _ h=>h) (λ _ h=>h)
 .try simp only at hy hz
  split at hy<;>split at hz<;>first|(cases hy;done)|(cases hz;done)|exact hi y z k k' hy hz he
 .try simp only at hy
  split at hy
  .cases hy
  .exact .inl ⟨y,k,hy,rfl⟩
theorem Step.moved(hm:zac5 w W μ m)(hi:∀x y k k',μ x=.at_ k->μ y=.at_ k'->k.b=k'.b->x=y)(hl:∀b,W b->b<w.heap.size)
  {x id:Nat} {k:Blk} {r r':Row} (hx:μ x=.at_ k) (hr:m x=.row r) (hro:r.ro=false) (hsz:r'.sz=r.sz) (hid:m id=.fresh)
  {us rest:List Value} {e:TypeId} (hk:Keeps (λ b=>b=k.b) w w') (hf:Flat (RepK w W μ) r'.sz us r'.es)
  (hh:w'.heap[k.b]? =some (.cells (us++rest).toArray e (0,0))) (ht:us.length+rest.length=k.tot) (hpz:0<r.sz:=by first|assumption|omega|exact zaz2.pos' (by assumption)):
  Step m (setM m [(x,.dead),(id,.row r')]) w w' W W μ (λ y=>if y=id then .at_ k else if y=x then .dead else μ y):=by
 obtain⟨r0,h0,hrow⟩:=hm.at_ hx;rw[hr]at h0;cases h0;have hfr:μ id=.fresh:=by have:=hm id;rw[hid]at this;exact this
 have hne:id≠x:=λ e=>by subst e;rw[hid]at hr;cases hr
 have hWk:W k.b:=hrow.wr.1 hro;have hD:∀b,b<w.heap.size->¬W b->¬b=k.b:=λ b _ h1 h2=>h1 (h2▸hWk);have hold:Old μ (λ y=>if y=id then .at_ k else if y=x then .dead else μ y):=λ y hy=>by
  by_cases h:y=id
  .subst h;exact absurd hfr hy
  .by_cases h2:y=x
   .subst h2;exact .inr (by simp[h])
   .exact .inl (by simp[h,h2])
 refine⟨hk.mono λ b _ h=>h▸⟨hWk,x,k,hx,rfl⟩,λ _ _ h=>h,λ _ h=>.inl h,hl,λ b h=>cR (hl b h) hk.size,hold,λ y=>?_,λ y z k1 k2 hy hz he=>?_,λ y k1 hy=>?_⟩
 .simp only[setM]
  by_cases h:y=id
  .subst h;simp only[dM];exact .inr ⟨k,by simp,.inl ⟨λ _=>hWk,hrow.wr.2.trans hsz.symm,hsz▸hpz,us,rest,e,hh,ht,hf.mono λ u a hr=>hr.goes hk hD (λ _ _ h=>h) hold⟩⟩
  .simp only[cL h]
   by_cases h2:y=x
   .simp only[cQ h2,zV7,cL h]
   .simp only[cL h2];exact(hm y).goes hk hD (λ _ _ h=>h) hold (by simp[h,h2]) (λ k1 h1 he=>h2 (hi y x k1 k h1 hx he)) (λ _ h=>h)
 .try simp only at hy hz
  have ex:∀y' k',¬y'=x->μ y'=.at_ k'->k'.b≠k.b:=λ y' k' hn h1 h2=>hn (hi y' x k' k h1 hx h2);split at hy<;>split at hz
  .subst_vars;rfl
  .cases hy;split at hz
   .cases hz
   .rename_i hn;exact absurd he.symm (ex _ _ hn hz)
  .cases hz;split at hy
   .cases hy
   .rename_i hn;exact absurd he (ex _ _ hn hy)
  .split at hy
   .cases hy
   .split at hz
    .cases hz
    .exact hi y z k1 k2 hy hz he
 .try simp only at hy
  split at hy
  .cases hy;exact .inl ⟨x,k,hx,rfl⟩
  .split at hy
   .cases hy
   .exact .inl ⟨y,k1,hy,rfl⟩
theorem Step.trans{w'':World}{W'':Nat->Prop}{μ'':Nat->Loc}{m' m'':Nat->MS}(h:Step m m' w w' W W' μ μ')(k:Step m' m'' w' w'' W' W'' μ' μ''):Step m m'' w w'' W W'' μ μ'' where
 keeps:=h.keeps.trans k.keeps (λ x hx hh=>by
  obtain⟨h1,y,kk,hy,rfl⟩:=hh;rcases h.live y kk hy with⟨z,kz,hz,he⟩|h2
  .exact⟨h.hW _ hx h1,z,kz,hz,he⟩
  .omega)
 hW:=λ b hb h1=>h.hW b hb (k.hW b (cR hb h.keeps.size) h1)
 wsup:=λ b hb=>by
  rcases h.wsup b hb with h1|h1
  .rcases k.wsup b h1 with h2|⟨y,kk,hy,rfl⟩
   .exact .inl h2
   .rcases h.live y kk hy with⟨z,kz,hz,he⟩|h3
    .exact .inr ⟨z,kz,hz,he⟩
    .have:=h.wlt0 _ hb;omega
  .exact .inr h1
 wlt0:=h.wlt0
 wlt:=k.wlt
 old:=λ x hx=>by
  rcases h.old x hx with e|e
  .rcases k.old x (e▸hx)with e2|e2
   .exact .inl (e2.trans e)
   .exact .inr e2
  .rcases k.old x (by rw[e];simp)with e2|e2
   .exact .inr (e2.trans e)
   .exact .inr e2
 mem:=k.mem
 inj:=k.inj
 live:=λ x kk hx=>by
  rcases k.live x kk hx with⟨y,ky,hy,he⟩|h1
  .rcases h.live y ky hy with⟨z,kz,hz,he2⟩|h2
   .exact .inl ⟨z,kz,hz,he2.trans he⟩
   .exact .inr (he▸h2)
  .have:=h.keeps.size;exact .inr (by omega)
end
def zaT7:Value->A->Bool
 | .bool b,.bool c=>b==c
 | .int k n,.int k' n'=>k==k'&&n==n'
 | .string s,.str t=>s.data.toList==t.data.toList
 | .slice none 0 0,.full []=>true
 | .slice none 0 0,.sl []=>true
 | .nilFunc,.clo f []=>f==zF2
 | .map none,.clo f []=>f==zF2
 |_,_=>false
def zS1:List Value->List A->Bool
 |[],[]=>true
 |v::vs,a::as=>zaT7 v a&&zS1 vs as
 |_,_=>false
def zbs0:Value->A->Bool
 | .agg vs,.agg as=>zS1 vs.toList as
 |v,a=>zaT7 v a
def chkX:Operand->PX->Bool
 | .tmp t,.t n=>t==n
 | .const _,.c .any=>true
 | .const v,.c a=>zbs0 v a
 | .global g,.g g'=>g==g'
 | .func f,.f f'=>f==f'
 |_,_=>false
def glob(G:zaI4)(g:Nat):Option (List A):=
 match G with
 |[]=>none
 |q::r=>if q.1=g then some q.2 else glob r g
def xv(G:zaI4)(fr:Nat->A):PX->A
 | .t n=>fr n
 | .c a=>a
 | .g g=>match glob G g with
  |some cs=>.rd cs 0
  |none=>.any
 | .f f=>.clo f []
def A.nc:A->A
 | .cnd _ a=>a
 |a=>a
def A.gd:A->Bool
 | .cnd g _=>g
 |_=>true
section
variable {w:World} {W:Nat→Prop} {μ:Nat→Loc}
theorem zbf8{v:Value}{a:A}(h:zaT7 v a=true):RepC w W v a:=by
 unfold zaT7 at h;split at h
 .simp at h;subst h;exact .bool _
 .simp at h;obtain⟨rfl,rfl⟩:=h;exact .int _ _
 .rename_i s t;simp at h;have:s=t:=by cases s;cases t;simp only[ByteArray.mk.injEq];exact Array.toList_inj.1 (by simpa using h)
  subst this;exact .str _
 .exact .full _ _ _ (.sl0 _ _)
 .exact .sl0 _ _
 .simp at h;subst h;exact .nf
 .simp at h;subst h;exact .nmp
 .cases h
theorem zp5{v:Value}{a:A}(h:RepC w W v a):RepK w W μ v a:=by
 cases h with
 |bool b=>exact .bool b
 |int k n=>exact .int k n
 |str s=>exact .str s
 |fn f=>exact .inl ⟨[],rfl,rfl,λ i u a h=>by simp at h⟩
 |nf=>exact .inr ⟨.inl rfl,rfl,rfl⟩
 |nmp=>exact .inr ⟨.inr rfl,rfl,rfl⟩
 |sl0 a cap=>exact .sl0 a cap
 |sl b off cap sz es us hb hlt hn hcap hsz hlen hc hr=>exact .sl b off cap sz es us hb hlt hn hcap hsz hlen hc hr
 |full a n es h=>exact .full a n es h
 |bnd f us cs hl hr=>exact .bnd f us cs hl hr
 |ival f us cs hl hr=>exact .ival f us cs hl hr
theorem cloK{v:Value}{f:FuncId}{caps:List A}(h:RepK w W μ v (.clo f caps))(hf:(f==zF2)=false):∃vs:List Value,v=.func (.func f) #[] vs.toArray/\vs.length=caps.length/\∀(i:Nat) (u:Value) (a:A),vs[i]? =some u->caps[i]? =some a->RepP w W μ u a:=by
 rcases h with h|⟨_,rfl,_⟩
 .exact h
 .simp at hf
theorem zo5{v:Value}{a:A}(h:RepK w W μ v a):RepV w W μ v a:=by
 cases a with
 |agg cs=>exact(by cases(show RepC w W v (.agg cs)from h))
 |_=>exact h
theorem zp6{v:Value}{a:A}(h:RepV w W μ v a):Rep w W μ v a:=by
 cases a with
 |any=>trivial
 |tup cs=>exact(by cases(show RepC w W v (.tup cs)from h))
 |cnd g a=>exact(by cases(show RepC w W v (.cnd g a)from h))
 |_=>exact h
theorem zB5{v:Value}{a:A}(h:RepC w W v a):Rep w W μ v a:=zp6 (zo5 (zp5 h))
theorem zT7:∀{vs:List Value} {as:List A},zS1 vs as=true->vs.length=as.length/\∀(i:Nat) (u:Value) (a:A),vs[i]? =some u->as[i]? =some a->RepC w W u a
 |[],[],_=>⟨rfl,by simp⟩
 |v::vs,a::as,h=>by
  simp only[zS1,cF]at h;obtain⟨h1,h2⟩:=zT7 h.2;refine⟨by simp[h1],λ i u b hu hb=>?_⟩;cases i with
  |zero=>simp at hu hb;subst hu;subst hb;exact zbf8 h.1
  |succ i=>simp at hu hb;exact h2 i u b hu hb
 |[],_::_,h=>by simp[zS1]at h
 |_::_,[],h=>by simp[zS1]at h
theorem zbF0{v:Value}{a:A}(h:zbs0 v a=true):RepV w W μ v a:=by
 unfold zbs0 at h;split at h
 .rename_i vs as;obtain⟨h1,h2⟩:=zT7 (w:=w) (W:=W) h;exact⟨vs.toList,by simp,h1,λ i u a hu ha=>zp5 (h2 i u a hu ha)⟩
 .exact zo5 (zp5 (zbf8 h))
theorem zbU4{G:zaI4}{g:Nat}{cs:List A}(h:glob G g=some cs):(g,cs)∈G:=by
 induction G with
 |nil=>simp[glob]at h
 |cons q r ih=>
  unfold glob at h;split at h
  .rename_i hg;subst hg;simp at h;subst h;simp
  .exact fB _ (ih h)
theorem zaX6{E:Env}{s:S}{a:Act}(hs:SatW E s a w W μ){x:Operand}{px:PX}(h:chkX x px=true):Rep w W μ (a.eval x) (xv E.G s.fr px):=by
 unfold chkX at h;split at h
 .simp at h;subst h;exact hs.fr _
 .trivial
 .exact zp6 (zbF0 h)
 .rename_i g g';simp at h;subst h;simp only[xv];split
  .rename_i cs hg;obtain⟨h1,h2,h3⟩:=hs.glob g cs (zbU4 hg);exact⟨g,0,rfl,h1,h2,λ j a hj=>by simpa using h3 j a hj⟩
  .trivial
 .simp at h;subst h;exact .inl ⟨[],rfl,rfl,by simp⟩
 .cases h
theorem zbs1{v:Value}{a:A}(h:Rep w W μ v a)(hg:a.gd=true):Rep w W μ v a.nc:=by
 cases a with
 |cnd g a=>exact zp6 (h.1 hg)
 |_=>exact h
theorem Rep.toV{v:Value}{a:A}(h:Rep w W μ v a)(ha:a.isV=true):RepV w W μ v a:=by cases a<;>first|exact h|(simp[A.isV]at ha)
theorem RepV.toCells{v:Value}{a:A}(h:RepV w W μ v a)(ha:a.isV=true):
  ∃us:List Value,v.cells=us.toArray/\us.length=a.cells.length/\(∀(i:Nat) (u:Value) (b:A),us[i]? =some u->a.cells[i]? =some b->RepK w W μ u b):=by
 have one:RepK w W μ v a->a.cells=[a]->∃us:List Value,v.cells=us.toArray/\us.length=a.cells.length/\(∀(i:Nat) (u:Value) (b:A),us[i]? =some u->a.cells[i]? =some b->RepK w W μ u b):=λ hk hc=>by
  have h1:=hk.oneCell;refine⟨[v],?_,by simp[hc],λ i u b hu hb=>?_⟩
  .cases v<;>first|rfl|(simp[Value.oneCell']at h1)
  .rw[hc]at hb;cases i with
   |zero=>simp at hu hb;subst hu;subst hb;exact hk
   |succ i=>simp at hu
 cases a with
 |agg cs=>obtain⟨vs,rfl,hl,hr⟩:=h;exact⟨vs,rfl,hl,hr⟩
 |tup cs=>simp[A.isV]at ha
 |cnd g a=>simp[A.isV]at ha
 |any=>simp[A.isV]at ha
 |rd cs o=>simp[A.isV]at ha
 |_=>exact one h rfl
theorem Rep.toCells{v:Value}{a:A}(h:Rep w W μ v a)(ha:a.isV=true):
  ∃us:List Value,v.cells=us.toArray/\us.length=a.cells.length/\(∀(i:Nat) (u:Value) (b:A),us[i]? =some u->a.cells[i]? =some b->RepK w W μ u b):=(h.toV ha).toCells ha
theorem Rep.bool{v:Value}{b:Bool}(h:Rep w W μ v (.bool b)):v=.bool b:=by have:RepC w W v (.bool b):=h;cases this;rfl
theorem Rep.int{v:Value}{k:IntKind}{n:Int}(h:Rep w W μ v (.int k n)):v=.int k n:=by have:RepC w W v (.int k n):=h;cases this;rfl
theorem Rep.str{v:Value}{s:ByteArray}(h:Rep w W μ v (.str s)):v=.string s:=by have:RepC w W v (.str s):=h;cases this;rfl
theorem RepC.bnd_val{v:Value}{f:FuncId}{cs:List A}(h:RepC w W v (.bnd f cs)):∃us:List Value,v=.func (.func f) #[.agg us.toArray] #[]/\us.length=cs.length/\∀(i:Nat) (u:Value) (c:A),us[i]? =some u->cs[i]? =some c->RepC w W u c:=by
 cases h with
 |bnd f us cs hl hr=>exact⟨us,rfl,hl,hr⟩
theorem RepC.ival_val{v:Value}{t:TypeId}{cs:List A}(h:RepC w W v (.ival t cs)):∃us:List Value,v=.iface t (.agg us.toArray)/\us.length=cs.length/\∀(i:Nat) (u:Value) (c:A),us[i]? =some u->cs[i]? =some c->RepC w W u c:=by
 cases h with
 |ival t us cs hl hr=>exact⟨us,rfl,hl,hr⟩
theorem RepK.toC{v:Value}{a:A}(h:RepK w W μ v a)(hp:a.pure1=true):RepC w W v a:=by
 cases a with
 |clo f cs=>
  cases cs with
  |nil=>
   rcases h with⟨vs,rfl,hl,_⟩|⟨rfl|rfl,rfl,_⟩
   .have:vs=[]:=cW hl;subst this;exact .fn f
   .exact .nf
   .exact .nmp
  |cons c cs=>simp[A.pure1]at hp
 |bool b=>exact h
 |int k n=>exact h
 |str s=>exact h
 |sl es=>exact h
 |full es=>exact h
 |bnd f cs=>exact h
 |ival f cs=>exact h
 |agg cs=>exact h
 |_=>simp[A.pure1]at hp
theorem RepC.open_sl{v:Value}{es:List (List A)}(h:RepC w W v (.sl es)):
  (es=[]/\∃a cap,v=.slice a 0 cap)\/
  ∃b off cap sz us,v=.slice (some ⟨b,off,none⟩) es.length cap/\¬W b/\b<w.heap.size/\0<es.length/\es.length<=cap/\Flat (RepC w W) sz us es/\
   (∀(q:Nat) (u:Value),us[q]? =some u->w.cell? ⟨b,off+q,none⟩=some u):=by
 cases h with
 |sl0 a cap=>exact .inl ⟨rfl,a,cap,rfl⟩
 |sl b off cap sz es us hb hlt hn hcap hsz hlen hc hr=>
  refine .inr ⟨b,off,cap,sz,us,rfl,hb,hlt,hn,hcap,⟨hlen,hsz,λ i c j a h1 h2=>?_⟩,hc⟩;have hi:=(cH.1 h1).1;have hj:=(cH.1 h2).1;rw[hsz i c h1]at hj;have hq:i*sz+j<us.length:=by rw[hlen];have:(i+1)*sz<=es.length*sz:=dC _ hi;rw[dK]at this;omega
  refine⟨us.getD (i*sz+j) undef,?_,hr i c j a h1 h2⟩;simp[hq]
theorem RepC.mk_sl{b off cap sz:Nat}{es:List (List A)}{us:List Value}(hb:¬W b)(hlt:b<w.heap.size)(hcap:es.length<=cap)(hf:Flat (RepC w W) sz us es)
  (hc:∀(q:Nat) (u:Value),us[q]? =some u->w.cell? ⟨b,off+q,none⟩=some u):RepC w W (.slice (some ⟨b,off,none⟩) es.length cap) (.sl es):=by
 by_cases hn:es=[]
 .subst hn;exact .sl0 _ _
 .refine .sl b off cap sz es us hb hlt (gG.2 hn) hcap hf.hs hf.hl hc λ i c j a h1 h2=>?_;obtain⟨u,hu,hr⟩:=hf.ha i c j a h1 h2
  simpa [hu]using hr
theorem RepC.of_full{v:Value}{es:List (List A)}(h:RepC w W v (.full es)):RepC w W v (.sl es)/\∃a,v=.slice a es.length es.length:=by
 cases h with
 |full a n es h=>
  refine⟨h,?_⟩;rcases h.open_sl with⟨rfl,a',cap,hv⟩|⟨b,off,cap,sz,us,hv,_⟩
  .cases hv;exact⟨_,rfl⟩
  .cases hv;exact⟨_,rfl⟩
end
def zq3(P:Program)(o:Oper)(a:Act)(w:World)(W:Nat->Prop)(μ:Nat->Loc)(m:Nat->MS)(av:A)(m':Nat->MS):Prop:=
  ∃r v w' W' μ',(execOp a.eval o).run P w=.ok r w'/\(r=.value v\/r=.skip/\v=undef)/\Rep w' W' μ' v av/\Step m m' w w' W W' μ μ'
theorem SatW.refl{E:Env}{s:S}{a:Act}{w:World}{W:Nat->Prop}{μ:Nat->Loc}(hs:SatW E s a w W μ):Step s.mem s.mem w w W W μ μ:=
  Step.quiet (Keeps.refl _ w) hs.mem hs.inj hs.wlt
section
variable {P:Program} {o:Oper} {a:Act} {E:Env} {s:S} {w:World} {W:Nat→Prop} {μ:Nat→Loc}
theorem SatW.still(hs:SatW E s a w W μ){v:Value}{av:A}(hr:(execOp a.eval o).run P w=.ok (.value v) w)(hv:Rep w W μ v av):zq3 P o a w W μ s.mem av s.mem:=
  ⟨_,v,w,W,μ,hr,.inl rfl,hv,hs.refl⟩
theorem zbU5(hs:SatW E s a w W μ){x:Operand}{av:A}(ho:o.op=.move x\/o.op=.assign x)(hx:Rep w W μ (a.eval x) av):zq3 P o a w W μ s.mem av s.mem:=by refine hs.still (v:=a.eval x) ?_ hx;rcases ho with ho|ho<;>simp[execOp,ho]
theorem zco3(hs:SatW E s a w W μ){c x y:Operand}{b p q:Bool}(ho:o.op=.pick c x y)(hc:Rep w W μ (a.eval c) (.bool b))(hx:b=true->Rep w W μ (a.eval x) (.bool p))(hy:b=false->Rep w W μ (a.eval y) (.bool q)):
    zq3 P o a w W μ s.mem (.bool (cond b p q)) s.mem:=by
  refine hs.still (v:=.bool (cond b p q)) ?_ (zB5 (.bool _));cases b
  .simp[execOp,ho,hc.bool,asBool,(hy rfl).bool]
  .simp[execOp,ho,hc.bool,asBool,(hx rfl).bool]
theorem zcN1(hs:SatW E s a w W μ){t:TypeId}{x:Operand}{b:Bool}(ho:o.op=.unOp .not t x)(hx:Rep w W μ (a.eval x) (.bool b)):zq3 P o a w W μ s.mem (.bool (!b)) s.mem:=by refine hs.still (v:=.bool (!b)) ?_ (zB5 (.bool _));simp[execOp,ho,hx.bool,Op.unary]
theorem zcN2(hs:SatW E s a w W μ){t:TypeId}{x:Operand}{k:IntKind}{n:Int}(ho:o.op=.unOp .neg t x)(hx:Rep w W μ (a.eval x) (.int k n)):zq3 P o a w W μ s.mem (.int k (k.wrap (0-n))) s.mem:=by refine hs.still (v:=.int k (k.wrap (0-n))) ?_ (zB5 (.int _ _));simp[execOp,ho,hx.int,Op.unary,Op.intArith]
theorem zcN3(hs:SatW E s a w W μ){op:BinOp}{t t2:TypeId}{x y:Operand}{ax ay av:A}{obl:Prop}(ho:o.op=.binOp op t x y t2)(hx:Rep w W μ (a.eval x) ax)(hy:Rep w W μ (a.eval y) ay)
    (he:zbo1 op ax ay=some (obl,av)) (hobl:obl):zq3 P o a w W μ s.mem av s.mem:=by
  have fin:∀v,(binOp op t (a.eval x) (a.eval y)).run P w=.ok v w->(∀i j,eqGuard op t i j (a.eval x) (a.eval y)=pure ())->RepC w W v av->zq3 P o a w W μ s.mem av s.mem:=λ v h1 h2 h3=>
    hs.still (v:=v) (by simp[execOp,ho,h2,h1]) (zB5 h3)
  cases ax<;>cases ay<;>try(simp[zbo1]at he;done)
  · rename_i k n k' n'
    rw[hx.int,hy.int]at fin;have hg:∀i j,eqGuard op t i j (Value.int k n) (Value.int k' n')=pure ():=by intro i j;cases op<;>rfl
    cases op <;>simp only[zbo1]at he<;>
      first
        |(cases he;refine fin _ ?_ hg (.int _ _);simp[binOp,Op.shift,show¬n'<0 by omega];done)
        | (split at he
           · rename_i hk
             subst hk
             first
               | (cases he;refine fin _ ?_ hg (.int _ _)
                  first
                    |(simp[binOp,Op.intArith];done)
                    |(simp[binOp,Op.intDiv,hobl];done)
                    |(simp[binOp,Op.intBits,zn0];done))
               | (cases he;refine fin _ ?_ hg (.bool _)
                  first
                    |(simp only[binOp,Op.intCmp,ne_eq,iN,cV,Sem.run_pure,gt_iff_lt,ge_iff_le];done)
                    |(simp only[binOp,Op.intCmp,ne_eq,iN,cV,Sem.run_pure];exact dA (λ b=>Result.ok (Value.bool b) w) (by rw[iF];simp)))
               |(simp at he;done)
           .cases he)
  · rename_i sa sb
    rw[hx.str,hy.str]at fin;have hg:∀i j,eqGuard op t i j (Value.string sa) (Value.string sb)=pure ():=by intro i j;cases op<;>rfl
    cases op<;>simp only[zbo1]at he<;>
      first
        |(cases he;done)
        | (cases he;refine fin _ ?_ hg (by first|exact .str _|exact .bool _)
           first
             |(simp[binOp,Op.stringOp];done)
             | (have:¬IntKind.i64.max<((sa.size+sb.size:Nat):Int):=by omega
                simp only[binOp,Op.stringOp];rw[cL (by omega)];rfl))
theorem zcN4(hs:SatW E s a w W μ){x:Operand}{i:Nat}{vs:List A}(ho:o.op=.extract x i)(hx:Rep w W μ (a.eval x) (.tup vs))(hi:i<vs.length):zq3 P o a w W μ s.mem (vs.getD i .any) s.mem:=by
  obtain⟨us,hv,hl,hr⟩:=hx;have hi':i<us.length:=by omega
  refine hs.still (v:=us[i]) ?_ (zp6 (hr i _ _ (by simp[hi']) (by simp[hi])));simp[execOp,ho,hv,Instr.extract,hi']
theorem zco4(hs:SatW E s a w W μ){x:Operand}{t:TypeId}{ats:Array TypeId}{b:ByteArray}(ho:o.op=.call {callee:=.builtin .len,args:=#[x],argTypes:=ats})(hat:ats[0]? =some t)
    (ht:P.underlying t=some .string) (hx:Rep w W μ (a.eval x) (.str b)):zq3 P o a w W μ s.mem (.int .i64 b.size) s.mem:=by
  refine hs.still (v:=goInt b.size) ?_ (zB5 (.int _ _));have h1:(Builtin.len_ ats o.type #[a.eval x]).run P w=.ok (goInt b.size) w:=by simp[Builtin.len_,hat,hx.str,run_underlying ht]
  simp[execOp,ho,resolve,invoke,builtin,h1]
theorem zcN5{id:Nat}(hs:SatW E s a w W μ){x:Operand}{t:TypeId}{ats:Array TypeId}{av:A}{ef:Ef}(ho:o.op=.call {callee:=.builtin .len,args:=#[x],argTypes:=ats})(hat:ats[0]? =some t)
    (hsl:∃e,P.underlying t=some (.slice e)) (hx:Rep w W μ (a.eval x) av) (he:ev id s.mem .len [av]=some ef):zq3 P o a w W μ s.mem ef.v s.mem:=by
  have fin:∀n:Nat,(Builtin.len_ ats o.type #[a.eval x]).run P w=.ok (goInt n) w->ef.v=.int .i64 n->zq3 P o a w W μ s.mem ef.v s.mem:=λ n h1 h2=>by rw[h2];refine hs.still (v:=goInt n) ?_ (zB5 (.int _ _));simp[execOp,ho,resolve,invoke,builtin,h1]
  have slc:∀a' n c,a.eval x=.slice a' n c->(Builtin.len_ ats o.type #[a.eval x]).run P w=.ok (goInt n) w:=by intro a' n c hv;obtain⟨e,he⟩:=hsl;simp[Builtin.len_,hat,hv,run_underlying he]
  cases av<;>simp only[ev]at he<;>try(cases he;done)
  · rename_i es
    cases he;have hx':RepC w W (a.eval x) (.sl es):=hx;rcases hx'.open_sl with⟨rfl,a',cap,hv⟩|⟨b,off,cap,sz,us,hv,_⟩
    .exact fin 0 (slc _ _ _ hv) rfl
    .exact fin es.length (slc _ _ _ hv) rfl
  · rename_i es
    cases he;have hx':RepC w W (a.eval x) (.full es):=hx;obtain⟨_,a',hv⟩:=hx'.of_full;exact fin es.length (slc _ _ _ hv) rfl
  · rename_i y lo n
    split at he
    · rename_i r hr
      cases he;refine fin n ?_ rfl;obtain⟨h1,h2⟩:RepK w W μ (a.eval x) (.own y lo n):=hx;have hm:=hs.mem y;rw[hr]at hm;rcases hm with⟨h3,_⟩|⟨k,h3,_⟩
      · rw[h3]at h2
        obtain⟨rfl,a',hv⟩:=h2;exact slc _ _ _ hv
      · rw[h3]at h2
        rcases h2 with⟨_,⟨rfl,a',hv⟩|⟨cap,hv,_⟩⟩
        .exact slc _ _ _ hv
        .exact slc _ _ _ hv
    .cases he
end
def aggD:TypeDesc->Bool
 | .struct _|.array _ _=>true
 |_=>false
def tyOk(P:Program)(T:TypeId)(ag:Bool)(n:Nat):Bool:=
 (match P.underlying T with|some d=>aggD d==ag|none=>false)&&(match P.info? T with|some i=>i.size==n|none=>false)&&(ag||n==1)
section
variable {P:Program} {o:Oper} {a:Act} {E:Env} {s:S} {w:World} {W:Nat→Prop} {μ:Nat→Loc}
theorem zac6{T:TypeId}{d:TypeDesc}(h:P.underlying T=some d)(w:World):(isAgg T).run P w=.ok (aggD d) w:=by unfold isAgg;simp only[Sem.run_bind,run_underlying h,Result.andThen_ok];cases d<;>rfl
theorem zH8{T:TypeId}{i:TypeInfo}(h:P.info? T=some i)(w:World):(sizeOf T).run P w=.ok i.size w:=by simp[sizeOf,typeInfo,h]
theorem zbx8{T:TypeId}{ag:Bool}{n:Nat}(hT:tyOk P T ag n=true){b q:Nat}{vs:List Value}(hl:vs.length=n)(hc:∀(i:Nat) (u:Value),vs[i]? =some u->w.cell? ⟨b,q+i,none⟩=some u):
  (Instr.loadAt T (.pointer (some ⟨b,q,none⟩))).run P w=.ok (if ag then .agg vs.toArray else vs.headD undef) w:=by
 unfold tyOk at hT;simp only[cF]at hT;obtain⟨⟨h1,h2⟩,h3⟩:=hT;cases hu:P.underlying T with
 |none=>simp[hu]at h1
 |some d=>
  cases hi:P.info? T with
  |none=>simp[hi]at h2
  |some i=>
   simp[hu]at h1;simp[hi]at h2;subst h2;have hcs:∀(j:Nat) (v:Value),vs[j]? =some v->w.cell? ((⟨b,q,none⟩:Addr).add j)=some v:=λ j v hj=>by rw[Addr.add_lit];exact hc j v hj
   cases ag with
   |true=>have:=run_loadCells_list (P:=P) w ⟨b,q,none⟩ vs hcs;rw[hl]at this;simp[Instr.loadAt,Instr.sureAddr,loadVar,zac6 hu,h1,zH8 hi,this]
   |false=>
    simp at h3
    match vs,hl with
    |[v],_=>have:=hc 0 v rfl;simp[Instr.loadAt,Instr.sureAddr,loadVar,zac6 hu,h1];rw[Nat.add_zero]at this;simp[this]
    |[],h=>simp[h3]at h
    |_::_::_,h=>simp[h3]at h
theorem zaI8{ag:Bool}{n:Nat}{vs:List Value}{cs:List A}(hn:ag=false->n=1)(hl:vs.length=n)(hc:cs.length=n)(hr:∀(i:Nat) (u:Value) (b:A),vs[i]? =some u->cs[i]? =some b->RepK w W μ u b):
  Rep w W μ (if ag then .agg vs.toArray else vs.headD undef) (zP9 ag cs):=by
 cases ag with
 |true=>exact⟨vs,rfl,by omega,hr⟩
 |false=>
  have h1:=hn rfl;subst h1
  match vs,cs,hl,hc with
  |[v],[c],_,_=>exact zp6 (zo5 (hr 0 v c rfl rfl))
theorem zbf9{T:TypeId}{ag:Bool}{n:Nat}(h:tyOk P T ag n=true):ag=false->n=1:=by
 intro ha;unfold tyOk at h;simp only[cF]at h
 simpa [ha]using h.2
theorem zaD4{cs:List A}{off n:Nat}(h:off+n<=cs.length):(sub cs off n).length=n:=by simp[sub];omega
theorem getElem?_sub(cs:List A)(off n i:Nat):(sub cs off n)[i]? =if i<n then cs[off+i]? else none:=by simp only[sub,dG,dO]
theorem SatW.ptr(hs:SatW E s a w W μ){v:Value}{y i j:Nat}{r:Row}(hx:Rep w W μ v (.ptr y i j))(hr:s.mem y=.row r):
  ∃k,μ y=.at_ k/\v=.pointer (some ⟨k.b,i*k.sz+j,none⟩)/\zaz2 w W μ r k:=by
 obtain⟨_,hk⟩:RepK w W μ v (.ptr y i j):=hx;have hm:=hs.mem y;rw[hr]at hm;rcases hm with⟨h3,_⟩|⟨k,h3,h4⟩
 .rw[h3]at hk;exact hk.elim
 .rw[h3]at hk;exact⟨k,h3,hk.2,h4.ok hk.1⟩
theorem zaz2.pos{r:Row}{k:Blk}(h:zaz2 w W μ r k):0<k.sz:=by have h1:=h.2.1;have h2:=h.2.2.1;omega
theorem zaM6{y:Nat}{k:Blk}(h:μ y=.at_ k)(hz:0<k.sz)(i j:Nat):Rep w W μ (.pointer (some ⟨k.b,i*k.sz+j,none⟩)) (.ptr y i j):=by refine(show RepK w W μ _ (.ptr y i j)from⟨rfl,?_⟩);rw[h];exact⟨hz,rfl⟩
theorem SatW.own(hs:SatW E s a w W μ){v:Value}{y lo n:Nat}{r:Row}(hx:Rep w W μ v (.own y lo n))(hr:s.mem y=.row r):
  (n=0/\∃a,v=.slice a 0 0)\/∃k cap,μ y=.at_ k/\v=.slice (some ⟨k.b,lo*k.sz,none⟩) n cap/\(lo+cap)*k.sz<=k.tot/\n<=cap/\lo+cap<=maxLen/\zaz2 w W μ r k:=by
 obtain⟨_,hk⟩:RepK w W μ v (.own y lo n):=hx;have hm:=hs.mem y;rw[hr]at hm;rcases hm with⟨h3,_⟩|⟨k,h3,h4⟩
 .rw[h3]at hk;exact .inl hk
 .rw[h3]at hk;rcases hk with⟨hz,hk|⟨cap,h5,h6,h7,h8⟩⟩
  .exact .inl hk
  .exact .inr ⟨k,cap,h3,h5,h6,h7,h8,h4.ok hz⟩
theorem SatW.posO(hs:SatW E s a w W μ){v:Value}{y lo n:Nat}{r:Row}(hx:Rep w W μ v (.own y lo n))(hr:s.mem y=.row r):0<r.sz:=by
 obtain⟨_,hk⟩:RepK w W μ v (.own y lo n):=hx;have hm:=hs.mem y;rw[hr]at hm;rcases hm with⟨_,_,h3⟩|⟨k,h3,h4⟩
 .exact h3
 .rw[h3]at hk;have h5:=hk.1;have h6:=h4.wr.2;omega
theorem zbg0{id:Nat}(hs:SatW E s a w W μ){vx:Value}{T:TypeId}{ag:Bool}{n:Nat}{av:A}{ef:Ef}(hT:tyOk P T ag n=true)(hx:Rep w W μ vx av)
  (he:ev id s.mem (.load n ag) [av]=some ef) (hobl:ef.obl):∃b q u,vx=.pointer (some ⟨b,q,none⟩)/\(loadVar T ⟨b,q,none⟩).run P w=.ok u w/\Rep w W μ u ef.v:=by
 have fin:∀(b q:Nat) (vs:List Value) (cs:List A),vx=.pointer (some ⟨b,q,none⟩)->vs.length=n->cs.length=n->(∀(i:Nat) (u:Value),vs[i]? =some u->w.cell? ⟨b,q+i,none⟩=some u)->
   (∀(i:Nat) (u:Value) (b:A),vs[i]? =some u->cs[i]? =some b->RepK w W μ u b)->ef.v=zP9 ag cs->∃b q u,vx=.pointer (some ⟨b,q,none⟩)/\(loadVar T ⟨b,q,none⟩).run P w=.ok u w/\Rep w W μ u ef.v:=λ b q vs cs h1 h2 h3 h4 h5 h6=>by
  rw[h6];exact⟨b,q,if ag then .agg vs.toArray else vs.headD undef,h1,zbx8 hT h2 h4,zaI8 (zbf9 hT) h2 h3 h5⟩
 cases av<;>simp only[ev]at he<;>try(cases he;done)
 .rename_i y i j;split at he
  .rename_i r hr;cases he;obtain⟨h1,h2⟩:=hobl;have hk:RepK w W μ (vx) (.ptr y i j):=hx;obtain⟨k,h3,hk,_,h5,h6,us,rest,e,h7,h8,hf⟩:=hs.ptr hx hr
   .have hc:r.es[i]? =some (r.es.getD i r.z):=by simp[h1]
    have hlen:=hf.hs i _ hc;have hsp:=hf.split hc;refine fin k.b (i*k.sz+j) ((((us.drop (i*r.sz)).take r.sz).drop j).take n) _ hk ?_ (zaD4 (by omega)) ?_ ?_ rfl
    .have:=hsp.hl;simp only[dR,eG]at this⊢;simp at this;omega
    .intro q u hq;rw[dG]at hq;split at hq
     .rename_i hqn;rw[dO,dG]at hq;split at hq
      .rw[dO]at hq;simp only[World.cell?,h7,h5];have:i*r.sz+j+q=i*r.sz+(j+q):=by omega
       simp only[this,Option.isSome_none,cG,cV,dX];rw[dF (cH.1 hq).1,hq]
      .cases hq
     .cases hq
    .intro q u b hq hb;rw[getElem?_sub]at hb;split at hb
     .rename_i hqn;rw[dG,cQ hqn,dO]at hq;obtain⟨u',hu',hr'⟩:=hsp.ha 0 _ (j+q) b rfl hb;simp only[gP,dJ]at hu';rw[hq]at hu';cases hu';exact hr'
     .cases hb
  .cases he
 .rename_i cs off;cases he;obtain⟨b,q,hv,hb,hlt,hc⟩:RepK w W μ (vx) (.rd cs off):=hx;have hlen:off+n<=cs.length:=hobl;have:∃vs:List Value,vs.length=n/\∀i,i<n->∃c,cs[off+i]? =some c/\w.cell? ⟨b,q+(off+i),none⟩=some (vs.getD i undef)/\RepC w W (vs.getD i undef) c:=by
   refine⟨(List.range n).map λ i=>(w.cell? ⟨b,q+(off+i),none⟩).getD undef,by simp,λ i hi=>?_⟩;have hlt:off+i<cs.length:=by omega
   obtain⟨u,hu,hr⟩:=hc (off+i) cs[off+i] (by simp[hlt]);refine⟨cs[off+i],by simp[hlt],?_,?_⟩
   .simp[hi,hu]
   .simpa [hi,hu]using hr
  obtain⟨vs,hl,hvs⟩:=this;refine fin b (q+off) vs _ hv hl (zaD4 hlen) ?_ ?_ rfl
  .intro i u hi;obtain⟨c,_,h2,_⟩:=hvs i (by have:=(cH.1 hi).1;omega);rw[eT,h2];simp[hi]
  .intro i u c hi hc;obtain⟨c',h1,_,h3⟩:=hvs i (by have:=(cH.1 hi).1;omega);rw[getElem?_sub]at hc;split at hc
   .rw[h1]at hc;cases hc;simp[hi]at h3;exact zp5 h3
   .cases hc
theorem zco5{id:Nat}(hs:SatW E s a w W μ){x:Operand}{T:TypeId}{ag:Bool}{n:Nat}{av:A}{ef:Ef}(ho:o.op=.load T x)(hT:tyOk P T ag n=true)(hx:Rep w W μ (a.eval x) av)
  (he:ev id s.mem (.load n ag) [av]=some ef) (hobl:ef.obl):zq3 P o a w W μ s.mem ef.v s.mem:=by
 obtain⟨b,q,u,h1,h2,h3⟩:=zbg0 hs hT hx he hobl;refine hs.still (v:=u) ?_ h3;simp only[execOp,ho,h1,Sem.run_bind];show(((loadVar T ⟨b,q,none⟩).run P w).andThen _)=_;rw[h2];rfl
def zbe2(P:Program)(T:TypeId)(f off:Nat):Bool:=
 match P.underlying T with
 |some (.struct fs)=>match fs[f]? with
  |some g=>g.offset==off&&(match P.info? g.type with|some i=>i.size !=0|none=>false)
  |none=>false
 |_=>false
theorem zbx9{T:TypeId}{f off b q:Nat}(h:zbe2 P T f off=true):(Instr.fieldAt T (.pointer (some ⟨b,q,none⟩)) f).run P w=.ok (.pointer (some ⟨b,q+off,none⟩)) w:=by
 unfold zbe2 at h;split at h
 .rename_i fs hu;split at h
  .rename_i g hg;simp only[cF]at h;obtain⟨h1,h2⟩:=h;split at h2
   .rename_i i hi;simp at h1 h2;subst h1;simp[Instr.fieldAt,run_underlying hu,hg,Instr.sureAddr,fieldPlace,zH8 hi,h2,Addr.add_lit]
   .cases h2
  .cases h
 .cases h
theorem zcd8{id:Nat}(hs:SatW E s a w W μ){x:Operand}{T:TypeId}{f off:Nat}{av:A}{ef:Ef}(ho:o.op=.fieldAddr T x f)(hT:zbe2 P T f off=true)(hx:Rep w W μ (a.eval x) av)
  (he:ev id s.mem (.faddr off) [av]=some ef):zq3 P o a w W μ s.mem ef.v s.mem:=by
 have fin:∀b q,a.eval x=.pointer (some ⟨b,q,none⟩)->Rep w W μ (.pointer (some ⟨b,q+off,none⟩)) ef.v->zq3 P o a w W μ s.mem ef.v s.mem:=λ b q h1 h2=>
  hs.still (by simp only[execOp,ho,h1,Sem.run_bind,zbx9 hT,Result.andThen_ok,Sem.run_pure]) h2
 cases av<;>simp only[ev]at he<;>try(cases he;done)
 .rename_i y i j;split at he
  .rename_i r hr;cases he;obtain⟨k,h3,hk,hrow⟩:=hs.ptr hx hr;exact fin _ _ hk (by rw[eT];exact zaM6 h3 hrow.pos i (j+off))
  .cases he
 .rename_i cs q;cases he;obtain⟨b,q',hv,hb,hlt,hc⟩:RepK w W μ (a.eval x) (.rd cs q):=hx;exact fin _ _ hv (show RepK w W μ _ (.rd cs (q+off))from⟨b,q',by rw[eT],hb,hlt,hc⟩)
end
end Ab
end Go.Proofs.YtamndckemppjdaaGreatDoor
