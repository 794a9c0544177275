import Derived.WalkKit
import Derived.Laws.AppendOwn
import Derived.Laws.AppendOwnNone
import Derived.Laws.OwnMore
import Derived.Laws.MakeOwn
import Derived.Laws.CopyOwn
import Derived.Orders
import Derived.MapKept
import Derived.WideKeyRuns
import Derived.Laws.StructEq
import Derived.Maps.RangeRun
namespace Go.Proofs.YtfmnjkfhahfhgaaGreatDoor
namespace Ab
section
set_option linter.all false
theorem Qm(n:Nat):(n:Int).toNat=n:=rfl
theorem Km{A:Type _}{a:A}:[a].length=1:=rfl
theorem ym{A:Type _}{a:A}{l:List A}:(a::l).length=l.length+1:=rfl
theorem Ym{A:Type _}:([]:List A).length=0:=rfl
theorem xm{A:Type _}{B:Type _}(a:A)(f:A->B):(some a).map f=some (f a):=rfl
theorem Xm{A:Type _}{a b:A}:(some a).getD b=a:=rfl
theorem jm{A:Type _}(l:List A):[]++l=l:=rfl
theorem Jm{A:Type _}{a:A}{l m:List A}:a::l++m=a::(l++m):=rfl
theorem oc{A:Type _}:(none:Option A).isSome=false:=rfl
def Oc:=@Result.andThen_ok
def qc:=@Sem.run_bind
def Qc:=@Sem.run_pure
theorem om{p:Prop}(h:p:=by omega):p:=h
theorem Om{p:Prop}(h:p:=by decide):p:=h
theorem qm{A:Type _}{B:Type _}(a:A)(f:A->Option B):(some a).bind f=f a:=rfl
def eF:=@Option.bind_some
def lL:=@Int.toNat_natCast
def lM:=@ByteArray.toList_eq
def lN:=@List.length_cons
def lO:=@List.getD_eq_getElem?_getD
def lP:=@List.nil_append
def lQ:=@Array.toArray_toList
def lR:=@List.foldl_cons
def lS:=@Option.map_some
def lT:=@List.length_singleton
def lU:=@List.length_nil
def lV:=@Nat.add_zero
def lW:=@List.getElem?_set_self
def lX:=@List.take_zero
def lY:=@List.getElem?_set_ne
def lZ:=@List.take_succ_cons
def mA:=@Nat.pow_succ
def mB:=@Nat.mul_add
def bX:=@if_neg
def bY:=@Bool.and_eq_true
def bZ:=@Bool.false_eq_true
def cA:=@if_pos
def cB:=@decide_eq_true_eq
def cC:=@List.length_append
def cD:=@List.getD_eq_getElem?_getD
def cE:=@List.append_assoc
def cF:=@List.getElem?_eq_getElem
def cG:=@decide_true
def cH:=@if_true
def cI:=@if_false
def cJ:=@List.getElem?_eq_some_iff
def cK:=@List.mem_cons
def cL:=@Bool.true_and
def cN:=@Option.map_eq_some_iff
def cO:=@decide_false
def cP:=@decide_eq_true
def cQ:=@Bool.not_true
def cR:=@List.mem_map
def cS:=@Array.getElem?_eq_some_iff
def cU:=@List.mem_of_getElem?
def cV:=@List.getElem?_map
def cW:=@and_self
def cX:=@List.mem_append
def cY:=@Option.some.injEq
def dA:=@List.eq_nil_of_length_eq_zero
def dB:=@Bool.not_eq_true'
def dC:=@Nat.le_refl
def dD:=@List.length_take
def dE:=@decide_eq_false_iff_not
def dF:=@List.pairwise_cons
def dG:=@Nat.le_trans
def dH:=@Option.some.inj
def dI:=@Bool.eq_false_iff
def dJ:=@List.mem_append_right
def dK:=@List.length_map
def dL:=@beq_iff_eq
def dM:=@Bool.eq_iff_iff
def dN:=@List.map_cons
def dO:=@Bool.not_false
def dP:=@Bool.false_or
def dQ:=@List.mem_singleton
def dR:=@Nat.mul_le_mul_right
def dS:=@List.length_drop
def dT:=@List.all_eq_true
def dU:=@Bool.or_eq_true
def dV:=@List.length_set
def dW:=@List.mem_append_left
def dX:=@List.getElem?_append_left
def dY:=@List.append_nil
def dZ:=@congrArg
def eA:=@List.getElem?_take
def eC:=@Nat.zero_add
def eD:=@Nat.add_mul
def eE:=@List.flatMap_cons
def eG:=@List.getElem?_drop
def eH:=@List.mem_range
def eJ:=@List.take_of_length_le
def eK:=@Nat.lt_of_lt_of_le
def eN:=@Nat.add_comm
def eO:=@List.take_append_drop
def eP:=@List.not_mem_nil
def eQ:=@Nat.lt_succ_self
def eT:=@List.Nodup.length_le_of_subset
def eU:=@List.take_length
def eV:=@List.drop_drop
def eX:=@List.range_eq_range'
def eY:=@Bool.false_and
def eZ:=@List.pairwise_iff_getElem
def fA:=@List.drop_left
def fB:=@Classical.choose_spec
def fC:=@Bool.or_self
def fD:=@implies_true
def fE:=@List.getElem?_append_right
def fF:=@List.drop_zero
def fG:=@Bool.and_true
def fH:=@Sum.inl.injEq
def fI:=@List.take_append_of_le_length
def fJ:=@List.drop_append_of_le_length
def fK:=@Array.getElem?_eq_getElem
def fL:=@List.map_append
def fM:=@decide_eq_false
def fN:=@List.mem_flatMap
def fO:=@List.getElem?_toArray
def fP:=@Nat.le_of_ble_eq_true
def fQ:=@Nat.eq_of_beq_eq_true
def fR:=@List.take_succ_eq_append_getElem
def fS:=@Nat.zero_le
def fT:=@List.pairwise_append
def fU:=@and_assoc
def fV:=@Bool.true_or
def fW:=@Bool.not_eq_false
def fX:=@Nat.add_assoc
def fY:=@List.mem_filterMap
def fZ:=@List.getElem?_append
def gB:=@Nat.mul_one
def gC:=@List.mem_iff_getElem
def gD:=@List.mem_of_mem_take
def gE:=@Array.getD_eq_getD_getElem?
def gF:=@Bool.and_self
def gG:=@true_and
def gH:=@of_decide_eq_true
def gJ:=@List.getElem_of_mem
def gK:=@Nat.min_eq_left
def gL:=@List.cons.injEq
def gN:=@List.drop_eq_getElem_cons
def gO:=@List.getElem?_eq_none
def gP:=@Bool.true_eq_false
def gQ:=@Bool.not_eq_true
def gR:=@List.length_filterMap_le
def gS:=@List.set_set
def gT:=@or_false
def gU:=@List.mem_of_mem_drop
def gV:=@Int.le_refl
def gW:=@List.length_eq_zero_iff
def gX:=@Option.bind_eq_some_iff
def gY:=@List.mem_filter
def gZ:=@List.length_pos_iff
def hI:=@List.getD_cons_succ
def hJ:=@Nat.sub_self
def hX:=@List.drop_eq_nil_of_le
def hY:=@Prod.mk.injEq
def hZ:=@List.range'_succ
def iA:=@List.getElem_mem
def iB:=@Bool.and_assoc
def iC:=@Array.getElem?_append_left
def iD:=@Bool.and_false
def iF:=@decide_eq_true_iff
def iG:=@Nat.div_lt_iff_lt_mul
def iH:=@List.length_replicate
def iI:=@List.set_append_right
def iJ:=@List.findIdx?_eq_some_iff_getElem
def iK:=@Go.MapKept.run_getObj_map
def iL:=@List.mem_or_eq_of_mem_set
def iM:=@List.size_toArray
def iN:=@not_false_eq_true
def iO:=@Option.isSome_iff_exists
def iP:=@Int.lt_irrefl
def iQ:=@Array.getElem?_setIfInBounds_ne
def iR:=@Int.toNat_of_nonneg
def iS:=@List.flatMap_append
def iT:=@List.drop_length
def iU:=@List.map_nil
def iV:=@Int.emod_lt_of_pos
def iW:=@Int.add_zero
def iX:=@List.nodup_cons
def iY:=@Int.emod_nonneg
def iZ:=@false_and
def jA:=@Array.getElem?_toList
def jB:=@List.length_filter_le
def jC:=@List.getElem?_of_mem
def jD:=@Bool.or_eq_false_iff
def jE:=@List.Perm.refl
def jF:=@Nat.le_of_lt
def jG:=@decide_eq_decide
def jH:=@Int.sub_zero
def jI:=@List.map_congr_left
def jJ:=@List.filter_sublist
def jK:=@and_true
def jL:=@List.getElem?_replicate
def jM:=@List.set_eq_take_append_cons_drop
def jN:=@Nat.mul_comm
def jO:=@false_or
def jP:=@List.map_map
def jQ:=@List.nodup_append
def jR:=@getElem!_pos
def jS:=@Bool.or_true
def jT:=@Array.getElem?_modify
def jU:=@List.sizeOf_lt_of_mem
def jV:=@Nat.div_add_mod'
def jW:=@Nat.min_eq_right
def jX:=@List.ext_getElem
def jY:=@List.nodup_range
def jZ:=@List.filter_cons
def kA:=@List.getElem_map
def kB:=@false_implies
def kC:=@Bool.or_false
def kD:=@List.contains_eq_mem
def kE:=@List.getLast?_eq_some_getLast
def kF:=@UInt8.toNat_inj
def kG:=@List.map_eq_nil_iff
def kH:=@Nat.zero_mul
def kI:=@List.map_set
def kJ:=@Nat.lt_or_ge
def kK:=@List.perm_ext_iff_of_nodup
def kL:=@List.isEmpty_eq_false_iff
def kM:=@Go.MapKept.run_setObj_map
def kN:=@List.mem_of_find?_eq_some
def kO:=@List.findIdx?_eq_none_iff
def kP:=@not_true_eq_false
def kQ:=@Nat.le_succ
def kR:=@dif_pos
def kS:=@List.findIdx_cons
def kT:=@Decidable.not_not
def kU:=@List.pairwise_map
def kV:=@Nat.lt_irrefl
def kW:=@List.drop_append
def kX:=@beq_self_eq_true
def kY:=@ite_self
def kZ:=@false_iff
def lA:=@List.any_eq_true
def lB:=@List.flatMap_nil
def lC:=@Nat.mod_lt
def lD:=@Ne.symm
def lE:=@Iff.rfl
def lF:=@Int.zero_add
def lG:=@Nat.not_lt_zero
def lH:=@List.take_take
def lI:=@List.mapM_cons
def lJ:=@Option.or_none
def lK:=@not_or
inductive A where
 |bool (b:Bool)
 |int (k:IntKind) (n:Int)
 |str (s:ByteArray)
 |sl (es:List (List A))
 |full (es:List (List A))
 |own (x lo n:Nat)
 |ptr (x i j:Nat)
 |mp (x:Nat)
 |it (x:Nat)
 |rd (cs:List A) (off:Nat)
 |agg (cs:List A)
 |tup (vs:List A)
 |clo (f:FuncId) (caps:List A)
 |bnd (f:FuncId) (cs:List A)
 |cnd (g:Bool) (a:A)
 |any
def zV:FuncId:=1000000000
structure Row where
 ro:Bool
 sz:Nat
 z:List A
 es:List (List A)
structure Blk where
 b:Nat
 sz:Nat
 tot:Nat
inductive Loc where
 |fresh
 |dead
 |empty
 |at_ (k:Blk)
inductive RepC (w:World) (W:Nat->Prop):Value->A->Prop
 |bool (b:Bool):RepC w W (.bool b) (.bool b)
 |int (k:IntKind) (n:Int):RepC w W (.int k n) (.int k n)
 |str (s:ByteArray):RepC w W (.string s) (.str s)
 |fn (f:FuncId):RepC w W (.func (.func f) #[] #[]) (.clo f [])
 |nf:RepC w W .nilFunc (.clo zV [])
 |sl0 (a:Option Addr) (cap:Nat):RepC w W (.slice a 0 cap) (.sl [])
 |sl (b off cap sz:Nat) (es:List (List A)) (us:List Value) (hb:¬W b) (hlt:b<w.heap.size) (hn:0<es.length) (hcap:es.length<=cap)
   (hsz:∀(i:Nat) (c:List A),es[i]? =some c->c.length=sz) (hlen:us.length=es.length*sz)
   (hc:∀(q:Nat) (u:Value),us[q]? =some u->w.cell? ⟨b,off+q,none⟩=some u)
   (hr:∀(i:Nat) (c:List A) (j:Nat) (a:A),es[i]? =some c->c[j]? =some a->RepC w W (us.getD (i*sz+j) undef) a):
   RepC w W (.slice (some ⟨b,off,none⟩) es.length cap) (.sl es)
 |full (a:Option Addr) (n:Nat) (es:List (List A)) (h:RepC w W (.slice a n n) (.sl es)):RepC w W (.slice a n n) (.full es)
 |bnd (f:FuncId) (us:List Value) (cs:List A) (hl:us.length=cs.length) (hr:∀(i:Nat) (u:Value) (c:A),us[i]? =some u->cs[i]? =some c->RepC w W u c):RepC w W (.func (.func f) #[.agg us.toArray] #[]) (.bnd f cs)
def RepP(w:World)(W:Nat->Prop)(μ:Nat->Loc)(v:Value):A->Prop
 | .own x lo n=>v.oneCell'=true/\match μ x with
   | .fresh=>False
   | .dead=>True
   | .empty=>n=0/\∃a,v=.slice a 0 0
   | .at_ k=>0<k.sz/\((n=0/\∃a,v=.slice a 0 0)\/∃H,v=.slice (some ⟨k.b,lo*k.sz,none⟩) n H/\(lo+H)*k.sz<=k.tot/\n<=H/\lo+H<=maxLen)
 | .ptr x i j=>v.oneCell'=true/\match μ x with
   | .fresh=>False
   | .dead=>True
   | .empty=>False
   | .at_ k=>0<k.sz/\v=.pointer (some ⟨k.b,i*k.sz+j,none⟩)
 | .mp x=>v.oneCell'=true/\match μ x with
   | .fresh=>False
   | .dead=>True
   | .empty=>False
   | .at_ k=>k.sz=0/\v=.map (some k.b)
 | .it x=>v.oneCell'=true/\match μ x with
   | .fresh=>False
   | .dead=>True
   | .empty=>False
   | .at_ k=>k.sz=0/\v=.pointer (some ⟨k.b,0,none⟩)
 | .rd U O=>∃b o,v=.pointer (some ⟨b,o+O,none⟩)/\¬W b/\b<w.heap.size/\∀(j:Nat) (a:A),U[j]? =some a->∃u,w.cell? ⟨b,o+j,none⟩=some u/\RepC w W u a
 |a=>RepC w W v a
def RepK(w:World)(W:Nat->Prop)(μ:Nat->Loc)(v:Value):A->Prop
 | .clo f H=>(∃vs:List Value,v=.func (.func f) #[] vs.toArray/\vs.length=H.length/\∀(i:Nat) (u:Value) (a:A),vs[i]? =some u->H[i]? =some a->RepP w W μ u a)\/v=.nilFunc/\f=zV/\H=[]
 |a=>RepP w W μ v a
def RepV(w:World)(W:Nat->Prop)(μ:Nat->Loc)(v:Value):A->Prop
 | .agg H=>∃vs:List Value,v=.agg vs.toArray/\vs.length=H.length/\∀(i:Nat) (u:Value) (a:A),vs[i]? =some u->H[i]? =some a->RepK w W μ u a
 |a=>RepK w W μ v a
def Rep(w:World)(W:Nat->Prop)(μ:Nat->Loc)(v:Value):A->Prop
 | .any=>True
 | .tup as=>∃vs:List Value,v=.tuple vs.toArray/\vs.length=as.length/\∀(i:Nat) (u:Value) (a:A),vs[i]? =some u->as[i]? =some a->RepV w W μ u a
 | .cnd g a=>(g=true->RepV w W μ v a)/\(g=false->v=undef)
 |a=>RepV w W μ v a
structure Flat (R:Value->A->Prop) (sz:Nat) (us:List Value) (es:List (List A)):Prop where
 hl:us.length=es.length*sz
 hs:∀(i:Nat) (c:List A),es[i]? =some c->c.length=sz
 ha:∀(i:Nat) (c:List A) (j:Nat) (a:A),es[i]? =some c->c[j]? =some a->∃u,us[i*sz+j]? =some u/\R u a
def vL(w:World)(W:Nat->Prop)(μ:Nat->Loc)(r:Row)(k:Blk):Prop:=
 (r.ro=false->W k.b)/\k.sz=r.sz/\0<r.sz/\
  ∃(us H:List Value) (e:TypeId),w.heap[k.b]? =some (.cells (us++H).toArray e (0,0))/\us.length+H.length=k.tot/\Flat (RepK w W μ) r.sz us r.es
def key1:A->A->Bool
 | .str _,.str _=>true
 | .int k _,.int k' _=>k==k'
 | .bool _,.bool _=>true
 |_,_=>false
def keyL:List A->List A->Bool
 |[],[]=>true
 |z::zs,c::cs=>key1 z c&&keyL zs cs
 |_,_=>false
def qD:A->A->Bool
 | .agg zs,.agg cs=>keyL zs cs
 |z,c=>key1 z c
def RepY(w:World)(W:Nat->Prop)(v:Value):A->Prop
 | .agg H=>∃vs:List Value,v=.agg vs.toArray/\vs.length=H.length/\∀(i:Nat) (u:Value) (a:A),vs[i]? =some u->H[i]? =some a->RepC w W u a
 |a=>RepC w W v a
def RepX(w:World)(W:Nat->Prop)(O:Bool)(v:Value)(H:List A):Prop:=
 if O=true then∃vs:List Value,v=.agg vs.toArray/\vs.length=H.length/\∀(i:Nat) (u:Value) (a:A),vs[i]? =some u->H[i]? =some a->RepC w W u a
 else∃a,H=[a]/\RepC w W v a
def tH(w:World)(W:Nat->Prop)(z:List A)(i:Nat)(e:MapEntry)(c:List A):Prop:=
 e.born=i/\∃k H O,c=k::H/\z=[z.headD .any,.bool O]/\qD (z.headD .any) k=true/\RepY w W e.key k/\RepX w W O e.val H
def zW(w:World)(W:Nat->Prop)(r:Row)(k:Blk):Prop:=
 (r.ro=false->W k.b)/\k.sz=r.sz/\r.sz=0/\
  ∃es:Array MapEntry,w.heap[k.b]? =some (.map es es.size)/\es.size=r.es.length/\∀(i:Nat) (e:MapEntry) (c:List A),es[i]? =some e->r.es[i]? =some c->tH w W r.z i e c
def iE(i:Nat):List A:=[.int .i64 (i:Nat)]
def ItOk(w:World)(W:Nat->Prop)(μ:Nat->Loc)(r:Row)(k:Blk):Prop:=
 (r.ro=false->W k.b)/\k.sz=r.sz/\r.sz=0/\r.z=[]/\
  ∃(y b c:Nat) (H:List Nat),r.es=[.mp y,.int .i64 c]::H.map iE/\RepP w W μ (.map (some b)) (.mp y)/\w.heap[k.b]? =some (.mapIter (some b) c H.toArray c)
def qN(w:World)(W:Nat->Prop)(μ:Nat->Loc)(r:Row)(k:Blk):Prop:=vL w W μ r k\/zW w W r k\/ItOk w W μ r k
def qN.ok{w:World}{W:Nat->Prop}{μ:Nat->Loc}{r:Row}{k:Blk}(h:qN w W μ r k)(U:0<k.sz):vL w W μ r k:=by
 rcases h with h|⟨_,H,O,_⟩|⟨_,H,O,_⟩
 .exact h
 .omega
 .omega
def qN.any{w:World}{W:Nat->Prop}{μ:Nat->Loc}{r:Row}{k:Blk}(h:qN w W μ r k)(H:k.sz=0):zW w W r k\/ItOk w W μ r k:=by
 rcases h with⟨_,O,U,_⟩|h
 .omega
 .exact h
inductive MS where
 |fresh
 |dead
 |row (r:Row)
def qU(w:World)(W:Nat->Prop)(μ:Nat->Loc)(x:Nat):MS->Prop
 | .fresh=>μ x=.fresh
 | .dead=>μ x=.dead
 | .row r=>(μ x=.empty/\r.es=[]/\0<r.sz)\/∃k,μ x=.at_ k/\qN w W μ r k
def rQ(w:World)(W:Nat->Prop)(μ:Nat->Loc)(m:Nat->MS):Prop:=∀x,qU w W μ x (m x)
abbrev Ag:=List (Nat×List A)
def zX(w:World)(W:Nat->Prop)(G:Ag):Prop:=
 ∀g H,(g,H)∈G->¬W g/\g<w.heap.size/\∀(j:Nat) (a:A),H[j]? =some a->∃u,w.cell? ⟨g,j,none⟩=some u/\RepC w W u a
structure Keeps (D:Nat->Prop) (w w':World):Prop where
 os:w'.os=w.os
 tape:w'.tape=w.tape
 output:w'.output=w.output
 drawn:w.drawn<=w'.drawn
 size:w.heap.size<=w'.heap.size
 block:∀b,b<w.heap.size->¬D b->w'.heap[b]? =w.heap[b]?
def Keeps.refl(D:Nat->Prop)(w:World):Keeps D w w:=⟨rfl,rfl,rfl,dC _,dC _,λ _ _ _=>rfl⟩
def Keeps.trans{D H:Nat->Prop}{a b c:World}(h:Keeps D a b)(k:Keeps H b c)(U:∀x,x<a.heap.size->H x->D x):Keeps D a c:=
 ⟨k.os.trans h.os,k.tape.trans h.tape,k.output.trans h.output,dG h.drawn k.drawn,dG h.size k.size,λ x K O=>
  (k.block x (eK K h.size) (λ Y=>O (U x K Y))).trans (h.block x K O)⟩
def Keeps.mono{D H:Nat->Prop}{a b:World}(h:Keeps D a b)(O:∀x,x<a.heap.size->D x->H x):Keeps H a b:=
 ⟨h.os,h.tape,h.output,h.drawn,h.size,λ x K U=>h.block x K (λ Y=>U (O x K Y))⟩
def RepC.keep{D:Nat->Prop}{w w':World}{W W':Nat->Prop}(F:Keeps D w w')(M:∀b,b<w.heap.size->¬W b->¬D b)(V:∀b,b<w.heap.size->¬W b->¬W' b)
  {v:Value} {a:A} (h:RepC w W v a):RepC w' W' v a:=by
 induction h with
 |bool b=>exact .bool b
 |int k n=>exact .int k n
 |str s=>exact .str s
 |fn f=>exact .fn f
 |nf=>exact .nf
 |sl0 a H=>exact .sl0 a H
 |sl b Y H sz es us hb K Z O B L hc hr U=>refine .sl b Y H sz es us (V b K hb) (eK K F.size) Z O B L (λ q u h1=>?_) U;rw[World.cell?_of_block (w:=w) (F.block b K (M b K hb))];exact hc q u h1
 |full a n es h U=>exact .full a n es U
 |bnd f us cs hl hr U=>exact .bnd f us cs hl U
def RepC.oneCell{w:World}{W:Nat->Prop}{v:Value}{a:A}(h:RepC w W v a):v.oneCell'=true:=by cases h<;>rfl
def RepP.oneCell{w:World}{W:Nat->Prop}{μ:Nat->Loc}{v:Value}{a:A}(h:RepP w W μ v a):v.oneCell'=true:=by cases a<;>simp only[RepP]at h<;>first|exact RepC.oneCell h|exact h.1|(obtain⟨b,o,rfl,_⟩:=h;rfl)
def A.noClo:A->Bool
 | .clo _ _=>false
 |_=>true
def RepK.toP{w:World}{W:Nat->Prop}{μ:Nat->Loc}{v:Value}{a:A}(h:RepK w W μ v a)(H:a.noClo=true):RepP w W μ v a:=by cases a<;>first|exact h|cases H
def RepP.toK{w:World}{W:Nat->Prop}{μ:Nat->Loc}{v:Value}{a:A}(h:RepP w W μ v a):RepK w W μ v a:=by
 cases a with
 |clo f H=>
  have O:RepC w W v (.clo f H):=h;cases O
  .exact .inl ⟨[],rfl,rfl,λ i u a h=>by simp at h⟩
  .exact .inr ⟨rfl,rfl,rfl⟩
 |_=>exact h
def RepK.oneCell{w:World}{W:Nat->Prop}{μ:Nat->Loc}{v:Value}{a:A}(h:RepK w W μ v a):v.oneCell'=true:=by
 cases a with
 |clo f H=>rcases h with⟨vs,rfl,_⟩|⟨rfl,_⟩<;>rfl
 |_=>exact(h.toP rfl).oneCell
def Old(μ μ':Nat->Loc):Prop:=∀x,μ x≠.fresh->μ' x=μ x\/μ' x=.dead
def Old.refl(μ:Nat->Loc):Old μ μ:=λ _ _=>.inl rfl
def RepP.goes{D:Nat->Prop}{w w':World}{W W':Nat->Prop}{μ μ':Nat->Loc}(Y:Keeps D w w')(B:∀b,b<w.heap.size->¬W b->¬D b)
  (F:∀b,b<w.heap.size->¬W b->¬W' b) {v:Value} {a:A} (U:Old μ μ') (h:RepP w W μ v a):RepP w' W' μ' v a:=by
 cases a with
 |own x lo n=>
  refine⟨h.1,?_⟩;have H:=h.2
  by_cases O:μ x=.fresh
  .rw[O]at H;exact H.elim
  .rcases U x O with e|e
   .rw[e];exact H
   .rw[e];trivial
 |ptr x i j=>
  refine⟨h.1,?_⟩;have H:=h.2
  by_cases O:μ x=.fresh
  .rw[O]at H;exact H.elim
  .rcases U x O with e|e
   .rw[e];exact H
   .rw[e];trivial
 |mp x=>
  refine⟨h.1,?_⟩;have H:=h.2
  by_cases O:μ x=.fresh
  .rw[O]at H;exact H.elim
  .rcases U x O with e|e
   .rw[e];exact H
   .rw[e];trivial
 |it x=>
  refine⟨h.1,?_⟩;have H:=h.2
  by_cases O:μ x=.fresh
  .rw[O]at H;exact H.elim
  .rcases U x O with e|e
   .rw[e];exact H
   .rw[e];trivial
 |rd cs M=>obtain⟨b,o,L,hb,K,V⟩:=h;refine⟨b,o,L,F b K hb,eK K Y.size,λ j a Z=>?_⟩;obtain⟨u,hu,hr⟩:=V j a Z;exact⟨u,(World.cell?_of_block (w:=w) (Y.block b K (B b K hb))).trans hu,hr.keep Y B F⟩
 |_=>exact RepC.keep Y B F h
def RepK.goes{D:Nat->Prop}{w w':World}{W W':Nat->Prop}{μ μ':Nat->Loc}(O:Keeps D w w')(U:∀b,b<w.heap.size->¬W b->¬D b)
  (Y:∀b,b<w.heap.size->¬W b->¬W' b) {v:Value} {a:A} (H:Old μ μ') (h:RepK w W μ v a):RepK w' W' μ' v a:=by
 cases a with
 |clo f cs=>exact h.imp (λ⟨vs,K,L,B⟩=>⟨vs,K,L,λ i u a F M=>(B i u a F M).goes O U Y H⟩) id
 |_=>exact((h.toP rfl).goes O U Y H).toK
def RepV.goes{D:Nat->Prop}{w w':World}{W W':Nat->Prop}{μ μ':Nat->Loc}(O:Keeps D w w')(U:∀b,b<w.heap.size->¬W b->¬D b)
  (Y:∀b,b<w.heap.size->¬W b->¬W' b) {v:Value} {a:A} (H:Old μ μ') (h:RepV w W μ v a):RepV w' W' μ' v a:=by
 cases a with
 |agg B=>obtain⟨vs,K,L,M⟩:=h;exact⟨vs,K,L,λ i u a V Z=>(M i u a V Z).goes O U Y H⟩
 |clo f B=>exact RepK.goes (a:=.clo f B) O U Y H h
 |bnd f B=>exact RepK.goes (a:=.bnd f B) O U Y H h
 |bool b=>exact RepK.goes (a:=.bool b) O U Y H h
 |int k n=>exact RepK.goes (a:=.int k n) O U Y H h
 |str s=>exact RepK.goes (a:=.str s) O U Y H h
 |sl es=>exact RepK.goes (a:=.sl es) O U Y H h
 |full es=>exact RepK.goes (a:=.full es) O U Y H h
 |own x lo n=>exact RepK.goes (a:=.own x lo n) O U Y H h
 |ptr x i j=>exact RepK.goes (a:=.ptr x i j) O U Y H h
 |mp x=>exact RepK.goes (a:=.mp x) O U Y H h
 |it x=>exact RepK.goes (a:=.it x) O U Y H h
 |rd B F=>exact RepK.goes (a:=.rd B F) O U Y H h
 |tup vs=>exact RepK.goes (a:=.tup vs) O U Y H h
 |cnd g a=>exact RepK.goes (a:=.cnd g a) O U Y H h
 |any=>exact RepK.goes (a:=.any) O U Y H h
def Rep.goes{D:Nat->Prop}{w w':World}{W W':Nat->Prop}{μ μ':Nat->Loc}(O:Keeps D w w')(U:∀b,b<w.heap.size->¬W b->¬D b)
  (Y:∀b,b<w.heap.size->¬W b->¬W' b) {v:Value} {a:A} (H:Old μ μ') (h:Rep w W μ v a):Rep w' W' μ' v a:=by
 cases a with
 |any=>trivial
 |tup as=>obtain⟨vs,K,L,M⟩:=h;exact⟨vs,K,L,λ i u a V Z=>(M i u a V Z).goes O U Y H⟩
 |cnd g a=>exact⟨λ hg=>(h.1 hg).goes O U Y H,h.2⟩
 |bool b=>exact RepV.goes (a:=.bool b) O U Y H h
 |int k n=>exact RepV.goes (a:=.int k n) O U Y H h
 |str s=>exact RepV.goes (a:=.str s) O U Y H h
 |sl es=>exact RepV.goes (a:=.sl es) O U Y H h
 |full es=>exact RepV.goes (a:=.full es) O U Y H h
 |own x lo n=>exact RepV.goes (a:=.own x lo n) O U Y H h
 |ptr x i j=>exact RepV.goes (a:=.ptr x i j) O U Y H h
 |mp x=>exact RepV.goes (a:=.mp x) O U Y H h
 |it x=>exact RepV.goes (a:=.it x) O U Y H h
 |rd B F=>exact RepV.goes (a:=.rd B F) O U Y H h
 |agg B=>exact RepV.goes (a:=.agg B) O U Y H h
 |clo f B=>exact RepV.goes (a:=.clo f B) O U Y H h
 |bnd f B=>exact RepV.goes (a:=.bnd f B) O U Y H h
def Flat.mono{R H:Value->A->Prop}{sz:Nat}{us:List Value}{es:List (List A)}(h:Flat R sz us es)(O:∀u a,R u a->H u a):Flat H sz us es:=
 ⟨h.hl,h.hs,λ i c j a U Y=>let⟨u,B,F⟩:=h.ha i c j a U Y;⟨u,B,O u a F⟩⟩
def Flat.nil(R:Value->A->Prop)(sz:Nat):Flat R sz [] []:=⟨by simp,by simp,by simp⟩
def Flat.one{R:Value->A->Prop}{us:List Value}{c:List A}(K:us.length=c.length)(U:∀(i:Nat) (u:Value) (a:A),us[i]? =some u->c[i]? =some a->R u a):
  Flat R c.length us [c]:=by
 refine⟨by simp[K],λ i d h=>?_,λ i d j a h H=>?_⟩
 .cases i with
  |zero=>simp at h;rw[h]
  |succ i=>simp at h
 .cases i with
  |zero=>
   simp at h;subst h;have O:j<us.length:=by rw[K];exact(cJ.1 H).1
   exact⟨us[j],by simp[O],U j _ a (by simp[O]) H⟩
  |succ i=>simp at h
def Flat.append{R:Value->A->Prop}{sz:Nat}{us vs:List Value}{es Y:List (List A)}(h:Flat R sz us es)(k:Flat R sz vs Y):Flat R sz (us++vs) (es++Y):=by
 refine⟨by simp[h.hl,k.hl,eD],λ i c H=>?_,λ i c j a H K=>?_⟩
 .rw[fZ]at H;split at H
  .exact h.hs i c H
  .exact k.hs _ c H
 .rw[fZ]at H;split at H
  .rename_i L;obtain⟨u,O,U⟩:=h.ha i c j a H K;refine⟨u,?_,U⟩;rw[dX (cJ.1 O).1,O]
  .rename_i L;obtain⟨u,O,U⟩:=k.ha _ c j a H K;refine⟨u,?_,U⟩;have e:i*sz+j=us.length+((i-es.length)*sz+j):=by
    rw[h.hl,<-fX,<-eD];congr 2;omega
   rw[e,fE om];rw[show us.length+((i-es.length)*sz+j)-us.length=(i-es.length)*sz+j by omega,O]
def Flat.take{R:Value->A->Prop}{sz:Nat}{us:List Value}{es:List (List A)}(h:Flat R sz us es)(n:Nat):Flat R sz (us.take (n*sz)) (es.take n):=by
 refine⟨by simp only[dD,h.hl,Nat.mul_min_mul_right],λ i c H=>?_,λ i c j a H K=>?_⟩
 .rw[eA]at H;split at H
  .exact h.hs i c H
  .cases H
 .rw[eA]at H;split at H
  .rename_i L;obtain⟨u,O,U⟩:=h.ha i c j a H K;refine⟨u,?_,U⟩;have Y:j<sz:=by rw[<-h.hs i c H];exact(cJ.1 K).1
   have:i*sz+j<n*sz:=by have:(i+1)*sz<=n*sz:=dR _ L;rw[eD]at this;omega
   rw[eA,cA this,O]
  .cases H
def Flat.drop{R:Value->A->Prop}{sz:Nat}{us:List Value}{es:List (List A)}(h:Flat R sz us es)(n:Nat):Flat R sz (us.drop (n*sz)) (es.drop n):=by
 refine⟨by simp only[dS,h.hl];rw[Nat.sub_mul],λ i c H=>?_,λ i c j a H K=>?_⟩
 .rw[eG]at H;exact h.hs _ c H
 .rw[eG]at H;obtain⟨u,O,U⟩:=h.ha _ c j a H K;refine⟨u,?_,U⟩;rw[eG,<-O];congr 1;rw[eD];omega
def Flat.set{R:Value->A->Prop}{sz:Nat}{us vs:List Value}{es:List (List A)}{c:List A}(h:Flat R sz us es)(n:Nat)(H:n<es.length)(k:Flat R sz vs [c]):
  Flat R sz (us.take (n*sz)++vs++us.drop ((n+1)*sz)) (es.set n c):=by
 have O:=((h.take n).append k).append (h.drop (n+1));have e:es.set n c=es.take n++[c]++es.drop (n+1):=by rw[jM,cA H];simp
 rw[e];exact O
def Flat.split{R:Value->A->Prop}{sz:Nat}{us:List Value}{es:List (List A)}(h:Flat R sz us es){i:Nat}{c:List A}(H:es[i]? =some c):
  Flat R sz ((us.drop (i*sz)).take sz) [c]:=by
 have O:=((h.drop i).take 1);have e:(es.drop i).take 1=[c]:=by have K:=(cJ.1 H).1;rw[gN K];have:=(cJ.1 H).2;simp[this]
 rw[e]at O
 simpa using O
def Flat.upd{R:Value->A->Prop}{us vs:List Value}{c d:List A}(h:Flat R c.length us [c])(hl:vs.length=d.length)(M:∀(i:Nat) (u:Value) (a:A),vs[i]? =some u->d[i]? =some a->R u a)
  (j:Nat) (hj:j+d.length<=c.length):Flat R c.length (us.take j++vs++us.drop (j+vs.length)) [c.take j++d++c.drop (j+d.length)]:=by
 have L:us.length=c.length:=by simpa using h.hl
 have F:∀(i:Nat) (u:Value) (a:A),us[i]? =some u->c[i]? =some a->R u a:=by intro i u a H K;obtain⟨u',O,Y⟩:=h.ha 0 c i a (by simp) K;simp only[kH,eC]at O;rw[H]at O;cases O;exact Y
 have V:(c.take j++d++c.drop (j+d.length)).length=c.length:=by simp;omega
 have:=Flat.one (R:=R) (us:=us.take j++vs++us.drop (j+vs.length)) (c:=c.take j++d++c.drop (j+d.length)) (by simp[L,hl]) (by
  intro i u a H K;rw[cE,fZ]at H K;rw[dD,L]at H;rw[dD]at K;split at H
  .rename_i Z;rw[cA Z]at K;rw[eA]at H K;split at H
   .rename_i B;rw[cA B]at K;exact F i u a H K
   .cases H
  .rename_i Z;rw[bX Z]at K;rw[fZ]at H K;rw[hl]at H;split at H
   .rename_i U;rw[cA U]at K;exact M _ u a H K
   .rename_i U;rw[bX U]at K;rw[eG]at H K;exact F _ u a H K)
 rwa [V]at this
def sub(H:List A)(off n:Nat):List A:=(H.drop off).take n
def upd(H:List A)(off:Nat)(new:List A):List A:=H.take off++new++H.drop (off+new.length)
def pL(n:Nat)(es:List (List A)):Prop:=∀c∈es,c.length=n
def A.cells:A->List A
 | .agg H=>H
 |a=>[a]
def A.isV:A->Bool
 | .bool _|.int _ _|.str _|.sl _|.full _|.own _ _ _|.ptr _ _ _|.agg _=>true
 | .clo _ _|.bnd _ _=>true
 |_=>false
def uH(O:Bool)(H:List A):A:=if O then .agg H else H.headD .any
inductive LK where
 |b
 |i (k:IntKind)
 |s
 deriving DecidableEq
def LK.fits:LK->A->Bool
 | .b,.bool _=>true
 | .i k,.int k' _=>k==k'
 | .s,.str _=>true
 |_,_=>false
def nB:List LK->List A->Bool
 |[],[]=>true
 |k::ks,a::as=>k.fits a&&nB ks as
 |_,_=>false
def eq1:A->A->Bool
 | .bool a,.bool b=>a==b
 | .int _ a,.int _ b=>a==b
 | .str a,.str b=>a.toList==b.toList
 |_,_=>false
def eqA:List A->List A->Bool
 |a::as,b::bs=>eq1 a b&&eqA as bs
 |_,_=>true
def pB(i n:Nat):Nat:=if i<n then i else n-1
def nP(H:BinOp)(k:IntKind)(x y:Int):Int:=
 match H with
 | .and=>k.wrap (BitVec.ofInt k.bits x&&&BitVec.ofInt k.bits y).toNat
 | .or=>k.wrap (BitVec.ofInt k.bits x|||BitVec.ofInt k.bits y).toNat
 | .xor=>k.wrap (BitVec.ofInt k.bits x^^^BitVec.ofInt k.bits y).toNat
 | .andNot=>k.wrap (BitVec.ofInt k.bits x&&& ~~~(BitVec.ofInt k.bits y)).toNat
 |_=>0
inductive PO where
 |mv
 |nilown (sz:Nat) (z:List A)
 |pick
 |box (n:Nat)
 |alloc (n:Nat) (z:List A)
 |build (z:List A) (ps:List (Nat×Nat))
 |bslice (sz:Nat) (z:List A)
 |bown (sz:Nat) (z:List A)
 |load (n:Nat) (ag:Bool)
 |store (n:Nat)
 |bin (op:BinOp)
 |eqb (neg:Bool)
 |eqa (neg:Bool) (ks:List LK)
 |not
 |neg
 |field (off n:Nat) (ag:Bool)
 |faddr (off:Nat)
 |iaA (n sz:Nat)
 |iaS (sz:Nat) (z:List A)
 |idxA (n sz:Nat) (ag:Bool)
 |idxS
 |slc (sz:Nat) (lo hi mx:Bool)
 |slcS (lo hi:Bool)
 |ext (i:Nat)
 |len
 |lenS
 |append (sz bytes:Nat) (z:List A)
 |appc (sz bytes:Nat)
 |apl (sz bytes:Nat)
 |copy (sz:Nat)
 |clear (sz:Nat) (z:List A)
 |mk (sz bytes:Nat) (z:List A)
 |conv (k:IntKind)
 |cvS
 |cvB
 |eqNil
 |min
 |max
 |nilck
 |call (f:FuncId)
 |callv
 |callb
 |callm (f:FuncId)
 |callvm
 |mkf (f:FuncId)
 |mkb (f:FuncId)
 |mkmap (z:List A)
 |lkp (ok ag:Bool) (kz:A) (z:List A)
 |mupd (kz:A) (ag:Bool) (n:Nat)
 |lenM
 |rng
 |next(d:List A)
 |entry (d:List A)
inductive PX where
 |t (n:Nat)
 |c (a:A)
 |g (g:Nat)
 |f (f:FuncId)
structure POp where
 dst:Option Nat
 g:Option (Nat×Bool)
 po:PO
 xs:List PX
structure Ef where
 obl:Prop
 v:A
 mw:List (Nat×MS)
def DR(op:BinOp):A->A->Option (Prop×A)
 | .int k a,.int k' b=>
  match op with
  | .shl=>some (0<=b,.int k (k.wrap (a*2^(Nat.min b.toNat k.bits))))
  | .shr=>some (0<=b,.int k (a.fdiv (2^(Nat.min b.toNat k.bits))))
  |op=>if k=k' then
    match op with
    | .add=>some (True,.int k (k.wrap (a+b)))
    | .sub=>some (True,.int k (k.wrap (a-b)))
    | .mul=>some (True,.int k (k.wrap (a*b)))
    | .quo=>some (b≠0,.int k (k.wrap (a.tdiv b)))
    | .rem=>some (b≠0,.int k (a.tmod b))
    | .eql=>some (True,.bool (decide (a=b)))
    | .neq=>some (True,.bool (!decide (a=b)))
    | .lss=>some (True,.bool (decide (a<b)))
    | .leq=>some (True,.bool (decide (a<=b)))
    | .gtr=>some (True,.bool (decide (b<a)))
    | .geq=>some (True,.bool (decide (b<=a)))
    | .and=>some (True,.int k (nP .and k a b))
    | .or=>some (True,.int k (nP .or k a b))
    | .xor=>some (True,.int k (nP .xor k a b))
    | .andNot=>some (True,.int k (nP .andNot k a b))
    |_=>none
   else none
 | .str a,.str b=>
  match op with
  | .add=>some (((a.size+b.size:Nat):Int)<=IntKind.i64.max,.str (a++b))
  | .eql=>some (True,.bool (a.toList==b.toList))
  | .neq=>some (True,.bool (!(a.toList==b.toList)))
  | .lss=>some (True,.bool (Op.bytesLess a.toList b.toList))
  | .leq=>some (True,.bool (Op.bytesLess a.toList b.toList||a.toList==b.toList))
  | .gtr=>some (True,.bool (!(Op.bytesLess a.toList b.toList||a.toList==b.toList)))
  | .geq=>some (True,.bool (!Op.bytesLess a.toList b.toList))
  |_=>none
 |_,_=>none
def sT(m:Nat->MS):A->Option (List (List A))
 | .sl es=>some es
 | .full es=>some es
 | .own x lo n=>match m x with
  | .row r=>some ((r.es.drop lo).take n)
  |_=>none
 | .str s=>some (s.toList.map λ b=>[A.int .u8 b.toNat])
 |_=>none
def uI(m:Nat->MS):A->Prop
 | .own x lo n=>match m x with
  | .row r=>lo+n<=r.es.length
  |_=>False
 |_=>True
def sB(m:Nat->MS)(sz:Nat)(x:A)(lo hi:Option Int)(mx:Option Int):Option (Prop×A):=
 match x,mx with
 | .sl es,none=>some (0<=lo.getD 0/\lo.getD 0<=hi.getD es.length/\hi.getD es.length<=es.length/\pL sz es,.sl ((es.take (hi.getD es.length).toNat).drop (lo.getD 0).toNat))
 | .full es,none=>some (0<=lo.getD 0/\lo.getD 0<=hi.getD es.length/\hi.getD es.length<=es.length/\pL sz es,.sl ((es.take (hi.getD es.length).toNat).drop (lo.getD 0).toNat))
 | .own y l n,none=>match m y with
  | .row r=>some (0<=lo.getD 0/\lo.getD 0<=hi.getD n/\hi.getD n<=n/\r.sz=sz,.own y (l+(lo.getD 0).toNat) ((hi.getD n).toNat-(lo.getD 0).toNat))
  |_=>none
 | .str s,none=>some (0<=lo.getD 0/\lo.getD 0<=hi.getD s.size/\hi.getD s.size<=s.size,.str (s.extract (lo.getD 0).toNat (hi.getD s.size).toNat))
 | .sl es,some m=>match hi with
  |some h=>some (0<=lo.getD 0/\lo.getD 0<=h/\h<=es.length/\h=m/\pL sz es,.full ((es.take h.toNat).drop (lo.getD 0).toNat))
  |none=>none
 | .full es,some m=>match hi with
  |some h=>some (0<=lo.getD 0/\lo.getD 0<=h/\h<=es.length/\h=m/\pL sz es,.full ((es.take h.toNat).drop (lo.getD 0).toNat))
  |none=>none
 | .own y l n,some q=>match hi,m y with
  |some h,.row r=>some (0<=lo.getD 0/\lo.getD 0<=h/\h<=n/\h=q/\r.sz=sz,.own y (l+(lo.getD 0).toNat) (h.toNat-(lo.getD 0).toNat))
  |_,_=>none
 |_,_=>none
def laid:List A->List (Nat×Nat)->List A->List A
 |z,p::ps,x::xs=>laid (upd z p.1 x.cells) ps xs
 |z,_,_=>z
def GI(n:Nat):List (Nat×Nat)->List A->Prop
 |p::ps,x::xs=>x.isV=true/\x.cells.length=p.2/\p.1+p.2<=n/\GI n ps xs
 |[],[]=>True
 |_,_=>False
def allV:List A->Bool
 |[]=>true
 |x::xs=>x.isV&&allV xs
def pH:List A->List (List A)
 |[]=>[]
 |x::xs=>x.cells::pH xs
def A.isStr:A->Bool
 | .str _=>true
 |_=>false
def A.isK:A->Bool
 | .bool _|.int _ _|.str _|.sl _|.full _|.own _ _ _|.ptr _ _ _=>true
 | .clo _ []|.bnd _ _=>true
 |_=>false
def allK:List A->Bool
 |[]=>true
 |x::xs=>x.isK&&allK xs
def A.pure1:A->Bool
 | .bool _|.int _ _|.str _|.sl _|.full _|.clo _ []|.bnd _ _|.agg _=>true
 |_=>false
def Ah:List A->Bool
 |[]=>true
 |c::cs=>c.pure1&&Ah cs
def uJ(es:List (List A)):Prop:=∀c∈es,∀a∈c,A.pure1 a=true
def u8s:List (List A)->Option (List Int)
 |[]=>some []
 |[.int .u8 n]::cs=>(u8s cs).map (n::·)
 |_=>none
def pI(l:List Int):ByteArray:=⟨(l.map λ n=>UInt8.ofNat n.toNat).toArray⟩
def eqK:A->A->Bool
 | .agg a,.agg b=>eqA a b
 |a,b=>eq1 a b
def rR(k:A):List (List A)->Option (List A)
 |[]=>none
 |c::es=>bif eqK k (c.headD .any)then some c.tail else rR k es
def mins(k:A)(v:List A):List (List A)->List (List A)
 |[]=>[k::v]
 |c::es=>bif eqK k (c.headD .any)then(k::v)::es else c::mins k v es
def GJ(es:List (List A)):Option (Nat×Nat):=match es.head?,es.tail.getLast? with
 |some [.mp y,.int _ _],some [.int _ i]=>some (y,i.toNat)
 |_,_=>none
def mEnt(z:List A)(c:List A):List A:=[c.headD .any,uH (match z.getD 1 .any with|.bool H=>H|_=>false) c.tail]
def mval(H:Bool)(z:List A)(o:Option (List A)):A:=uH H (o.getD z)
def A.isAg:A->Bool
 | .agg _=>true
 |_=>false
def ev(id:Nat)(m:Nat->MS):PO->List A->Option Ef
 | .mv,[x]=>some ⟨True,x,[]⟩
 | .nilown sz z,[_]=>some ⟨0<sz,.own id 0 0,[(id,.row ⟨false,sz,z,[]⟩)]⟩
 | .box n,[x]=>some ⟨x.isV=true/\0<n/\x.cells.length=n,.ptr id 0 0,[(id,.row ⟨false,n,x.cells,[x.cells]⟩)]⟩
 | .alloc n z,[]=>some ⟨0<n/\z.length=n,.ptr id 0 0,[(id,.row ⟨false,n,z,[z]⟩)]⟩
 | .build z ps,xs=>some ⟨GI z.length ps xs,.agg (laid z ps xs),[]⟩
 | .bslice sz _,xs=>some ⟨0<sz/\allV xs=true/\pL sz (pH xs)/\uJ (pH xs)/\xs.length*sz<=16777216,.full (pH xs),[]⟩
 | .bown sz z,xs=>some ⟨0<sz/\allV xs=true/\pL sz (pH xs)/\xs.length*sz<=16777216,.own id 0 xs.length,[(id,.row ⟨false,sz,z,pH xs⟩)]⟩
 | .load n ag,[x]=>
  match x with
  | .ptr y i j=>match m y with
   | .row r=>some ⟨i<r.es.length/\j+n<=r.sz,uH ag (sub (r.es.getD i r.z) j n),[]⟩
   |_=>none
  | .rd O H=>some ⟨H+n<=O.length,uH ag (sub O H n),[]⟩
  |_=>none
 | .store n,[p,x]=>
  match p with
  | .ptr y i j=>match m y with
   | .row r=>some ⟨r.ro=false/\x.isV=true/\i<r.es.length/\j+n<=r.sz/\x.cells.length=n,.any,
     [(y,.row ⟨r.ro,r.sz,r.z,r.es.set i (upd (r.es.getD i r.z) j x.cells)⟩)]⟩
   |_=>none
  |_=>none
 | .bin op,[x,y]=>(DR op x y).map λ q=>⟨q.1,q.2,[]⟩
 | .eqb neg,[.bool x,.bool y]=>some ⟨True,.bool (if neg then !decide (x=y)else decide (x=y)),[]⟩
 | .eqa neg ks,[.agg xs,.agg ys]=>some ⟨nB ks xs=true/\nB ks ys=true,.bool (if neg then !eqA xs ys else eqA xs ys),[]⟩
 | .not,[.bool x]=>some ⟨True,.bool (!x),[]⟩
 | .neg,[.int k n]=>some ⟨True,.int k (k.wrap (0-n)),[]⟩
 | .field H n ag,[.agg O]=>some ⟨H+n<=O.length,uH ag (sub O H n),[]⟩
 | .faddr H,[x]=>
  match x with
  | .ptr y i j=>match m y with
   | .row _=>some ⟨True,.ptr y i (j+H),[]⟩
   |_=>none
  | .rd O o=>some ⟨True,.rd O (o+H),[]⟩
  |_=>none
 | .iaA n sz,[x,.int _ k]=>
  match x with
  | .ptr y i j=>match m y with
   | .row _=>some ⟨0<=k/\k<n,.ptr y i (j+pB k.toNat n*sz),[]⟩
   |_=>none
  | .rd O o=>some ⟨0<=k/\k<n,.rd O (o+pB k.toNat n*sz),[]⟩
  |_=>none
 | .iaS sz z,[x,.int _ k]=>
  match x with
  | .sl es=>some ⟨0<=k/\k<es.length/\(es.getD k.toNat z).length=sz,.rd (es.getD k.toNat z) 0,[]⟩
  | .full es=>some ⟨0<=k/\k<es.length/\(es.getD k.toNat z).length=sz,.rd (es.getD k.toNat z) 0,[]⟩
  | .own y lo n=>match m y with
   | .row r=>some ⟨0<=k/\k<n/\r.sz=sz,.ptr y (lo+k.toNat) 0,[]⟩
   |_=>none
  |_=>none
 | .idxA n sz ag,[.agg O,.int _ k]=>some ⟨0<=k/\k<n/\n*sz=O.length,uH ag (sub O (pB k.toNat n*sz) sz),[]⟩
 | .idxS,[.str s,.int _ k]=>some ⟨0<=k/\k<s.size,.int .u8 (s.toList.getD k.toNat 0).toNat,[]⟩
 | .slc sz false false false,[x]=>if x.isStr then none else(sB m sz x none none none).map λ q=>⟨q.1,q.2,[]⟩
 | .slc sz true false false,[x,.int _ l]=>if x.isStr then none else(sB m sz x (some l) none none).map λ q=>⟨q.1,q.2,[]⟩
 | .slc sz false true false,[x,.int _ h]=>if x.isStr then none else(sB m sz x none (some h) none).map λ q=>⟨q.1,q.2,[]⟩
 | .slc sz true true false,[x,.int _ l,.int _ h]=>if x.isStr then none else(sB m sz x (some l) (some h) none).map λ q=>⟨q.1,q.2,[]⟩
 | .slc sz false true true,[x,.int _ h,.int _ c]=>if x.isStr then none else(sB m sz x none (some h) (some c)).map λ q=>⟨q.1,q.2,[]⟩
 | .slc sz true true true,[x,.int _ l,.int _ h,.int _ c]=>if x.isStr then none else(sB m sz x (some l) (some h) (some c)).map λ q=>⟨q.1,q.2,[]⟩
 | .slcS false false,[.str s]=>(sB m 0 (.str s) none none none).map λ q=>⟨q.1,q.2,[]⟩
 | .slcS true false,[.str s,.int _ l]=>(sB m 0 (.str s) (some l) none none).map λ q=>⟨q.1,q.2,[]⟩
 | .slcS false true,[.str s,.int _ h]=>(sB m 0 (.str s) none (some h) none).map λ q=>⟨q.1,q.2,[]⟩
 | .slcS true true,[.str s,.int _ l,.int _ h]=>(sB m 0 (.str s) (some l) (some h) none).map λ q=>⟨q.1,q.2,[]⟩
 | .ext i,[.tup vs]=>some ⟨i<vs.length,vs.getD i .any,[]⟩
 | .len,[x]=>
  match x with
  | .sl es=>some ⟨True,.int .i64 es.length,[]⟩
  | .full es=>some ⟨True,.int .i64 es.length,[]⟩
  | .own y _ n=>match m y with
   | .row _=>some ⟨True,.int .i64 n,[]⟩
   |_=>none
  |_=>none
 | .lenS,[.str s]=>some ⟨True,.int .i64 s.size,[]⟩
 | .append sz bytes z,[b,x]=>
  (sT m x).bind λ new=>
  match b with
  | .full es=>some ⟨0<sz/\(es=[]\/new≠[])/\pL sz es/\uI m x/\pL sz new/\(es.length+new.length)*bytes<=140737488355328/\es.length+new.length<=maxLen,.own id 0 (es.length+new.length),[(id,.row ⟨false,sz,z,es++new⟩)]⟩
  | .own y lo n=>match m y with
   | .row r=>some ⟨r.ro=false/\lo=0/\n=r.es.length/\r.sz=sz/\uI m x/\pL sz new/\(n+new.length)*bytes<=140737488355328/\n+new.length<=maxLen,
     .own id 0 (n+new.length),[(y,.dead),(id,.row ⟨false,sz,r.z,r.es++new⟩)]⟩
   |_=>none
  |_=>none
 | .appc sz bytes,[b,x]=>
  (sT m x).bind λ new=>
  match b with
  | .own y lo n=>match m y with
   | .row r=>some ⟨r.ro=false/\lo=0/\n<=r.es.length/\r.sz=sz/\uI m x/\pL sz new/\(n+new.length)*bytes<=140737488355328/\n+new.length<=maxLen,
     .own id 0 (n+new.length),[(y,.dead),(id,.row ⟨false,sz,r.z,r.es.take n++new⟩)]⟩
   |_=>none
  |_=>none
 | .apl sz bytes,[.full es0,.sl es]=>some ⟨0<sz/\es0=[]/\pL sz es/\es.length*bytes<=140737488355328/\es.length<=maxLen,.sl es,[]⟩
 | .copy sz,[d,x]=>
  (sT m x).bind λ new=>
  match d with
  | .own y lo n=>match m y with
   | .row r=>some ⟨r.ro=false/\r.sz=sz/\lo+n<=r.es.length/\uI m x/\pL sz new,.int .i64 (Nat.min new.length n),
     [(y,.row ⟨false,sz,r.z,r.es.take lo++new.take n++r.es.drop (lo+Nat.min new.length n)⟩)]⟩
   |_=>none
  |_=>none
 | .clear sz z,[d]=>
  match d with
  | .own y lo n=>match m y with
   | .row r=>some ⟨r.ro=false/\r.sz=sz/\lo+n<=r.es.length,.any,[(y,.row ⟨false,sz,r.z,r.es.take lo++List.replicate n z++r.es.drop (lo+n)⟩)]⟩
   |_=>none
  |_=>none
 | .mk sz bytes z,[.int _ l,.int _ c]=>
  some ⟨0<sz/\z.length=sz/\0<=l/\l<=c/\c*bytes<=140737488355328/\c<=maxLen,.own id 0 l.toNat,[(id,.row ⟨false,sz,z,List.replicate l.toNat z⟩)]⟩
 | .conv k,[.int _ n]=>some ⟨True,.int k (k.wrap n),[]⟩
 | .cvS,[x]=>if x.isStr then none else(sT m x).bind λ es=>(u8s es).bind λ l=>some ⟨uI m x,.str (pI l),[]⟩
 | .cvB,[.str s]=>some ⟨s.size<=maxLen,.sl (s.toList.map λ b=>[A.int .u8 b.toNat]),[]⟩
 | .min,[.int k x,.int k' y]=>some ⟨k=k',.int k (if y<x then y else x),[]⟩
 | .max,[.int k x,.int k' y]=>some ⟨k=k',.int k (if x<y then y else x),[]⟩
 | .nilck,[x]=>
  match x with
  | .ptr y _ _=>match m y with
   | .row _=>some ⟨True,x,[]⟩
   |_=>none
  | .rd _ _=>some ⟨True,x,[]⟩
  | .clo f _=>some ⟨(f==zV)=false,x,[]⟩
  | .bnd _ _=>some ⟨True,x,[]⟩
  |_=>none
 | .mkb f,[.agg O]=>some ⟨Ah O=true,.bnd f O,[]⟩
 | .mkf f,xs=>some ⟨allK xs=true,.clo f xs,[]⟩
 | .mkmap z,[]=>some ⟨True,.mp id,[(id,.row ⟨false,0,z,[]⟩)]⟩
 | .lkp ok ag kz z,[.mp y,k]=>match m y with
  | .row r=>some ⟨r.z=[kz,.bool ag]/\qD kz k=true,if ok then .tup [mval ag z (rR k r.es),.bool (rR k r.es).isSome]else mval ag z (rR k r.es),[]⟩
  |_=>none
 | .mupd kz ag n,[.mp y,k,v]=>match m y with
  | .row r=>some ⟨r.ro=false/\r.z=[kz,.bool ag]/\qD kz k=true/\v.isV=true/\v.isAg=ag/\v.cells.length=n/\uJ [v.cells],.any,[(y,.row ⟨false,0,r.z,mins k v.cells r.es⟩)]⟩
  |_=>none
 | .lenM,[.mp y]=>match m y with
  | .row r=>some ⟨r.z≠[],.int .i64 r.es.length,[]⟩
  |_=>none
 | .rng,[.mp y]=>match m y with
  | .row r=>some ⟨r.z≠[],.it id,[(id,.row ⟨false,0,[],[[.mp y,.int .i64 r.es.length]]⟩)]⟩
  |_=>none
 |_,_=>none
structure S where
 fr:Nat->A
 mem:Nat->MS
structure Env where
 w0:World
 Win:Nat->Prop
 Mb:Nat->Prop
 N:Nat
 G:Ag
 k0:Nat
 μ0:Nat->Loc
structure SatW (E:Env) (s:S) (a:Act) (w:World) (W:Nat->Prop) (μ:Nat->Loc):Prop where
 defers:a.defers=[]
 size:a.tmps.size=E.N
 fr:∀t,Rep w W μ (a.tmps.getD t undef) (s.fr t)
 mem:rQ w W μ s.mem
 inj:∀x y k k',μ x=.at_ k->μ y=.at_ k'->k.b=k'.b->x=y
 keeps:Keeps E.Mb E.w0 w
 winlt:∀b,E.Win b->b<E.w0.heap.size
 wsub:∀b,W b->E.Win b\/E.w0.heap.size<=b
 wsup:∀b,E.Win b->W b\/E.Mb b
 wlt:∀b,W b->b<w.heap.size
 live:∀x k,μ x=.at_ k->E.Mb k.b\/E.w0.heap.size<=k.b
 glob:zX w W E.G
 fix:∀x,x<E.k0->(μ x=E.μ0 x/\μ x≠.fresh)\/μ x=.dead
def Sat(E:Env)(s:S)(a:Act)(w:World):Prop:=∃W μ,SatW E s a w W μ
def setM(m:Nat->MS):List (Nat×MS)->Nat->MS
 |[]=>m
 |q::r=>setM (λ x=>if x=q.1 then q.2 else m x) r
def setF(f:Nat->A)(d:Option Nat)(a:A):Nat->A:=λ t=>if d=some t then a else f t
structure Step (m m':Nat->MS) (w w':World) (W W':Nat->Prop) (μ μ':Nat->Loc):Prop where
 keeps:Keeps (λ b=>W b/\∃y k,μ y=.at_ k/\k.b=b) w w'
 hW:∀b,b<w.heap.size->W' b->W b
 wsup:∀b,W b->W' b\/∃y k,μ y=.at_ k/\k.b=b
 wlt0:∀b,W b->b<w.heap.size
 wlt:∀b,W' b->b<w'.heap.size
 old:Old μ μ'
 mem:rQ w' W' μ' m'
 inj:∀x y k k',μ' x=.at_ k->μ' y=.at_ k'->k.b=k'.b->x=y
 live:∀x k,μ' x=.at_ k->(∃y k',μ y=.at_ k'/\k'.b=k.b)\/w.heap.size<=k.b
def Rep.step{m m':Nat->MS}{w w':World}{W W':Nat->Prop}{μ μ':Nat->Loc}(h:Step m m' w w' W W' μ μ'){v:Value}{a:A}(U:Rep w W μ v a):Rep w' W' μ' v a:=
 U.goes h.keeps (λ _ _ H O=>H O.1) (λ b hb H O=>H (h.hW b hb O)) h.old
def RepK.step{m m':Nat->MS}{w w':World}{W W':Nat->Prop}{μ μ':Nat->Loc}(h:Step m m' w w' W W' μ μ'){v:Value}{a:A}(U:RepK w W μ v a):RepK w' W' μ' v a:=
 U.goes h.keeps (λ _ _ H O=>H O.1) (λ b hb H O=>H (h.hW b hb O)) h.old
def YD(a:Act)(d:Option Nat)(v:Value)(t:Nat)(H:∀x,d=some x->x<a.tmps.size):
  (a.put d v).tmps.getD t undef=if d=some t then v else a.tmps.getD t undef:=by
 cases d with
 |none=>simp[Act.put]
 |some x=>
  have K:=H x rfl;simp only[Act.put,cY]
  by_cases h:x=t
  .subst h;simp[K]
  .simp only[bX h,gE,iQ h]
def SatW.step{E:Env}{s:S}{a:Act}{w w':World}{W W':Nat->Prop}{μ μ':Nat->Loc}(H:SatW E s a w W μ){m':Nat->MS}(h:Step s.mem m' w w' W W' μ μ')
  {d:Option Nat} {v:Value} {av:A} (Y:∀x,d=some x->x<E.N) (Z:Rep w' W' μ' v av):SatW E ⟨setF s.fr d av,m'⟩ (a.put d v) w' W' μ' where
 defers:=by cases d<;>exact H.defers
 size:=by have:=H.size;cases d<;>simp[Act.put,this]
 fr:=λ t=>by
  rw[YD a d v t (λ x K=>by rw[H.size];exact Y x K)];simp only[setF];split
  .exact Z
  .exact(H.fr t).step h
 mem:=h.mem
 inj:=h.inj
 keeps:=H.keeps.trans h.keeps (λ x K U=>by
  obtain⟨_,y,k,L,rfl⟩:=U;rcases H.live y k L with h1|h1
  .exact h1
  .omega)
 winlt:=H.winlt
 wsub:=λ b hb=>by
  by_cases V:b<w.heap.size
  .exact H.wsub b (h.hW b V hb)
  .have:=H.keeps.size;exact .inr om
 wsup:=λ b hb=>by
  rcases H.wsup b hb with h1|h1
  .rcases h.wsup b h1 with O|⟨y,k,L,rfl⟩
   .exact .inl O
   .rcases H.live y k L with h3|h3
    .exact .inr h3
    .have:=H.winlt _ hb;omega
  .exact .inr h1
 wlt:=h.wlt
 live:=λ x k K=>by
  rcases h.live x k K with⟨y,k',L,B⟩|h1
  .rw[<-B];exact H.live y k' L
  .have:=H.keeps.size;exact .inr om
 glob:=λ g F hg=>by
  obtain⟨h1,O,h3⟩:=H.glob g F hg;refine⟨λ U=>h1 (h.hW g O U),eK O h.keeps.size,λ j a M=>?_⟩;obtain⟨u,hu,hr⟩:=h3 j a M;exact⟨u,(World.cell?_of_block (w:=w) (h.keeps.block g O (λ U=>h1 U.1))).trans hu,
   hr.keep h.keeps (λ _ _ h1 O=>h1 O.1) (λ b hb h1 O=>h1 (h.hW b hb O))⟩
 fix:=λ x K=>by
  rcases H.fix x K with⟨h1,O⟩|h1
  .rcases h.old x O with e|e
   .exact .inl ⟨e.trans h1,by rw[e];exact O⟩
   .exact .inr e
  .rcases h.old x (by rw[h1];simp)with e|e
   .exact .inr (e.trans h1)
   .exact .inr e
section
variable {w w':World} {W W':Nat→Prop} {μ μ':Nat→Loc} {m:Nat→MS}
def vL.goes{D:Nat->Prop}{r:Row}{k:Blk}(U:Keeps D w w')(B:∀b,b<w.heap.size->¬W b->¬D b)(F:∀b,b<w.heap.size->¬W b->¬W' b)(ho:Old μ μ')
  (hb:¬D k.b) (K:W k.b->W' k.b) (h:vL w W μ r k):vL w' W' μ' r k:=by
 obtain⟨M,L,V,us,H,e,Y,Z,h6⟩:=h;refine⟨λ O=>K (M O),L,V,us,H,e,?_,Z,h6.mono λ u a O=>O.goes U B F ho⟩;rw[U.block k.b (cS.1 Y).1 hb];exact Y
def RepX.keep{D:Nat->Prop}{U:Bool}{v:Value}{Y:List A}(B:Keeps D w w')(F:∀b,b<w.heap.size->¬W b->¬D b)(M:∀b,b<w.heap.size->¬W b->¬W' b)(h:RepX w W U v Y):RepX w' W' U v Y:=by
 unfold RepX at*;split
 .rename_i K;rw[cA K]at h;obtain⟨vs,H,O,L⟩:=h;exact⟨vs,H,O,λ i u a x y=>(L i u a x y).keep B F M⟩
 .rename_i K;rw[bX K]at h;obtain⟨a,H,O⟩:=h;exact⟨a,H,O.keep B F M⟩
def RepY.keep{D:Nat->Prop}{v:Value}{a:A}(H:Keeps D w w')(O:∀b,b<w.heap.size->¬W b->¬D b)(U:∀b,b<w.heap.size->¬W b->¬W' b)(h:RepY w W v a):RepY w' W' v a:=by
 cases a with
 |agg M=>obtain⟨vs,Y,B,F⟩:=h;exact⟨vs,Y,B,λ i u a x y=>(F i u a x y).keep H O U⟩
 |_=>exact RepC.keep H O U h
def tH.keep{D:Nat->Prop}{z:List A}{i:Nat}{e:MapEntry}{c:List A}(H:Keeps D w w')(O:∀b,b<w.heap.size->¬W b->¬D b)(U:∀b,b<w.heap.size->¬W b->¬W' b)(h:tH w W z i e c):tH w' W' z i e c:=by obtain⟨Y,k,B,F,M,K,L,V,Z⟩:=h;exact⟨Y,k,B,F,M,K,L,V.keep H O U,Z.keep H O U⟩
def zW.goes{D:Nat->Prop}{r:Row}{k:Blk}(H:Keeps D w w')(U:∀b,b<w.heap.size->¬W b->¬D b)(Y:∀b,b<w.heap.size->¬W b->¬W' b)
  (hb:¬D k.b) (K:W k.b->W' k.b) (h:zW w W r k):zW w' W' r k:=by
 obtain⟨B,F,M,es,O,L,V⟩:=h;refine⟨λ Z=>K (B Z),F,M,es,?_,L,λ i e c x y=>(V i e c x y).keep H U Y⟩;rw[H.block k.b (cS.1 O).1 hb];exact O
def ItOk.goes{D:Nat->Prop}{r:Row}{k:Blk}(O:Keeps D w w')(Y:∀b,b<w.heap.size->¬W b->¬D b)(B:∀b,b<w.heap.size->¬W b->¬W' b)(ho:Old μ μ')
  (hb:¬D k.b) (K:W k.b->W' k.b) (h:ItOk w W μ r k):ItOk w' W' μ' r k:=by
 obtain⟨F,M,L,V,y,b,c,H,Z,h5,U⟩:=h;refine⟨λ hr=>K (F hr),M,L,V,y,b,c,H,Z,h5.goes O Y B ho,?_⟩;rw[O.block k.b (cS.1 U).1 hb];exact U
def qN.goes{D:Nat->Prop}{r:Row}{k:Blk}(H:Keeps D w w')(O:∀b,b<w.heap.size->¬W b->¬D b)(U:∀b,b<w.heap.size->¬W b->¬W' b)(ho:Old μ μ')
  (hb:¬D k.b) (K:W k.b->W' k.b) (h:qN w W μ r k):qN w' W' μ' r k:=h.imp (vL.goes H O U ho hb K) (.imp (zW.goes H O U hb K) (ItOk.goes H O U ho hb K))
def qN.lt{r:Row}{k:Blk}(h:qN w W μ r k):k.b<w.heap.size:=by rcases h with⟨_,_,_,us,O,e,H,_⟩|⟨_,_,_,es,H,_⟩|⟨_,_,_,_,y,b,c,U,_,_,H⟩<;>exact(cS.1 H).1
def qN.wr{r:Row}{k:Blk}(h:qN w W μ r k):(r.ro=false->W k.b)/\k.sz=r.sz:=by rcases h with h|h|h<;>exact⟨h.1,h.2.1⟩
def qU.goes{D:Nat->Prop}{x:Nat}{q:MS}(U:Keeps D w w')(Y:∀b,b<w.heap.size->¬W b->¬D b)(B:∀b,b<w.heap.size->¬W b->¬W' b)(ho:Old μ μ')
  (K:μ' x=μ x) (hb:∀k,μ x=.at_ k->¬D k.b) (L:∀b,W b->W' b) (h:qU w W μ x q):qU w' W' μ' x q:=by
 cases q with
 |fresh=>exact K.trans h
 |dead=>exact K.trans h
 |row r=>
  rcases h with⟨H,O⟩|⟨k,H,O⟩
  .exact .inl ⟨K.trans H,O⟩
  .exact .inr ⟨k,K.trans H,O.goes U Y B ho (hb k H) (L _)⟩
def rQ.at_(h:rQ w W μ m){x:Nat}{k:Blk}(K:μ x=.at_ k):∃r,m x=.row r/\qN w W μ r k:=by
 have:=h x;cases L:m x with
 |fresh=>rw[L]at this;exact absurd (K.symm.trans this) (by simp)
 |dead=>rw[L]at this;exact absurd (K.symm.trans this) (by simp)
 |row r=>
  rw[L]at this;rcases this with⟨H,_⟩|⟨k',H,O⟩
  .rw[K]at H;cases H
  .rw[K]at H;cases H;exact⟨r,rfl,O⟩
def Step.quiet(H:Keeps (λ _=>False) w w')(hm:rQ w W μ m)(hi:∀x y k k',μ x=.at_ k->μ y=.at_ k'->k.b=k'.b->x=y)(K:∀b,W b->b<w.heap.size):
  Step m m w w' W W μ μ where
 keeps:=H.mono λ _ _ h=>h.elim
 hW:=λ _ _ h=>h
 wsup:=λ _ h=>.inl h
 wlt:=λ b h=>eK (K b h) H.size
 old:=Old.refl μ
 wlt0:=K
 mem:=λ x=>(hm x).goes H (λ _ _ _ h=>h) (λ _ _ h=>h) (Old.refl μ) rfl (λ _ _ h=>h) (λ _ h=>h)
 inj:=hi
 live:=λ x k h=>.inl ⟨x,k,h,rfl⟩
def Step.new(hm:rQ w W μ m)(hi:∀x y k k',μ x=.at_ k->μ y=.at_ k'->k.b=k'.b->x=y)(hl:∀b,W b->b<w.heap.size)
  {id:Nat} (Y:m id=.fresh) {r:Row} {us rest:List Value} {e:TypeId} (B:0<r.sz) (U:Keeps (λ _=>False) w w') (hf:Flat (RepK w W μ) r.sz us r.es)
  (hh:w'.heap[w.heap.size]? =some (.cells (us++rest).toArray e (0,0))):
  Step m (setM m [(id,.row r)]) w w' W (λ b=>W b\/b=w.heap.size) μ (λ x=>if x=id then .at_ ⟨w.heap.size,r.sz,us.length+rest.length⟩else μ x):=by
 have F:μ id=.fresh:=by have:=hm id;rw[Y]at this;exact this
 have H:Old μ (λ x=>if x=id then .at_ ⟨w.heap.size,r.sz,us.length+rest.length⟩else μ x):=λ x K=>by
  by_cases h:x=id
  .subst h;exact absurd F K
  .exact .inl (by simp[h])
 have hlt:w.heap.size<w'.heap.size:=(cS.1 hh).1;refine⟨U.mono λ _ _ h=>h.elim,λ b hb h=>?_,λ b h=>.inl (.inl h),hl,λ b h=>?_,H,λ x=>?_,λ x y k k' K L M=>?_,λ x k K=>?_⟩
 .rcases h with h|h
  .exact h
  .omega
 .rcases h with h|h
  .exact eK (hl b h) U.size
  .omega
 .simp only[setM]
  by_cases h:x=id
  .subst h;simp only[cH];exact .inr ⟨⟨w.heap.size,r.sz,us.length+rest.length⟩,by simp,.inl ⟨λ _=>.inr rfl,rfl,B,us,rest,e,hh,rfl,hf.mono λ u a hr=>hr.goes U (λ _ _ _ h=>h) (λ b hb V Z=>Z.elim V om) H⟩⟩
  .simp only[bX h];exact(hm x).goes U (λ _ _ _ h=>h) (λ b hb V Z=>Z.elim V om) H (by simp[h]) (λ _ _ h=>h) (λ _ h=>.inl h)
 .have O:∀z kz,μ z=.at_ kz->kz.b<w.heap.size:=λ z kz B=>by obtain⟨_,_,h⟩:=hm.at_ B;exact h.lt
  try simp only at K L
  split at K<;>split at L
  .subst_vars;rfl
  .cases K;have:=O _ _ L;simp only at M;omega
  .cases L;have:=O _ _ K;simp only at M;omega
  .exact hi x y k k' K L M
 .try simp only at K
  split at K
  .cases K;exact .inr (dC _)
  .exact .inl ⟨x,k,K,rfl⟩
def Step.newEmpty(hm:rQ w W μ m)(hi:∀x y k k',μ x=.at_ k->μ y=.at_ k'->k.b=k'.b->x=y)(V:∀b,W b->b<w.heap.size)
  {id:Nat} (O:m id=.fresh) {r:Row} (F:0<r.sz) (U:r.es=[]) (Y:Keeps (λ _=>False) w w'):
  Step m (setM m [(id,.row r)]) w w' W W μ (λ x=>if x=id then .empty else μ x):=by
 have B:μ id=.fresh:=by have:=hm id;rw[O]at this;exact this
 have H:Old μ (λ x=>if x=id then .empty else μ x):=λ x K=>by
  by_cases h:x=id
  .subst h;exact absurd B K
  .exact .inl (by simp[h])
 refine⟨Y.mono λ _ _ h=>h.elim,λ b hb h=>h,λ b h=>.inl h,V,λ b h=>eK (V b h) Y.size,H,λ x=>?_,λ x y k k' K L U=>?_,λ x k K=>?_⟩
 .simp only[setM]
  by_cases h:x=id
  .subst h;simp only[cH];exact .inl ⟨by simp,U,F⟩
  .simp only[bX h];exact(hm x).goes Y (λ _ _ _ h=>h) (λ _ _ h=>h) H (by simp[h]) (λ _ _ h=>h) (λ _ h=>h)
 .try simp only at K L
  split at K<;>split at L<;>first|(cases K;done)|(cases L;done)|exact hi x y k k' K L U
 .try simp only at K
  split at K
  .cases K
  .exact .inl ⟨x,k,K,rfl⟩
def Step.write(hm:rQ w W μ m)(hi:∀x y k k',μ x=.at_ k->μ y=.at_ k'->k.b=k'.b->x=y)(V:∀b,W b->b<w.heap.size)
  {x:Nat} {k:Blk} {r r':Row} (K:μ x=.at_ k) (B:m x=.row r) (F:r.ro=false) (U:r'.sz=r.sz)
  {us rest:List Value} {e:TypeId} (Y:Keeps (λ b=>b=k.b) w w') (hf:Flat (RepK w W μ) r'.sz us r'.es)
  (hh:w'.heap[k.b]? =some (.cells (us++rest).toArray e (0,0))) (ht:us.length+rest.length=k.tot) (M:0<r.sz:=by first|assumption|omega|exact vL.pos' (by assumption)):
  Step m (setM m [(x,.row r')]) w w' W W μ μ:=by
 obtain⟨r0,Z,H⟩:=hm.at_ K;rw[B]at Z;cases Z;have O:W k.b:=H.wr.1 F;have hD:∀b,b<w.heap.size->¬W b->¬b=k.b:=λ b _ L h2=>L (h2▸O);refine⟨Y.mono λ b _ h=>h▸⟨O,x,k,K,rfl⟩,λ _ _ h=>h,λ _ h=>.inl h,V,λ b h=>eK (V b h) Y.size,Old.refl μ,λ y=>?_,hi,λ y k' h=>.inl ⟨y,k',h,rfl⟩⟩;simp only[setM]
 by_cases h:y=x
 .subst h;simp only[cH];exact .inr ⟨k,K,.inl ⟨λ _=>O,H.wr.2.trans U.symm,U▸M,us,rest,e,hh,ht,hf.mono λ u a B=>B.goes Y hD (λ _ _ h=>h) (Old.refl μ)⟩⟩
 .simp only[bX h];exact(hm y).goes Y hD (λ _ _ h=>h) (Old.refl μ) rfl (λ k1 L he=>h (hi y x k1 k L K he)) (λ _ h=>h)
def Step.newAny(hm:rQ w W μ m)(hi:∀x y k k',μ x=.at_ k->μ y=.at_ k'->k.b=k'.b->x=y)(V:∀b,W b->b<w.heap.size)
  {id:Nat} (U:m id=.fresh) {r:Row} (Y:Keeps (λ _=>False) w w') (Z:w.heap.size<w'.heap.size)
  (hA:qN w' (λ b=>W b\/b=w.heap.size) (λ x=>if x=id then .at_ ⟨w.heap.size,0,0⟩else μ x) r ⟨w.heap.size,0,0⟩):
  Step m (setM m [(id,.row r)]) w w' W (λ b=>W b\/b=w.heap.size) μ (λ x=>if x=id then .at_ ⟨w.heap.size,0,0⟩else μ x):=by
 have B:μ id=.fresh:=by have:=hm id;rw[U]at this;exact this
 have H:Old μ (λ x=>if x=id then .at_ ⟨w.heap.size,0,0⟩else μ x):=λ x K=>by
  by_cases h:x=id
  .subst h;exact absurd B K
  .exact .inl (by simp[h])
 refine⟨Y.mono λ _ _ h=>h.elim,λ b hb h=>?_,λ b h=>.inl (.inl h),V,λ b h=>?_,H,λ x=>?_,λ x y k k' K L F=>?_,λ x k K=>?_⟩
 .rcases h with h|h
  .exact h
  .omega
 .rcases h with h|h
  .exact eK (V b h) Y.size
  .omega
 .simp only[setM]
  by_cases h:x=id
  .subst h;simp only[cH];exact .inr ⟨⟨w.heap.size,0,0⟩,by simp,hA⟩
  .simp only[bX h];exact(hm x).goes Y (λ _ _ _ h=>h) (λ b hb h1 h2=>h2.elim h1 om) H (by simp[h]) (λ _ _ h=>h) (λ _ h=>.inl h)
 .have O:∀z M,μ z=.at_ M->M.b<w.heap.size:=λ z M hz=>by obtain⟨_,_,h⟩:=hm.at_ hz;exact h.lt
  try simp only at K L
  split at K<;>split at L
  .subst_vars;rfl
  .cases K;have:=O _ _ L;simp only at F;omega
  .cases L;have:=O _ _ K;simp only at F;omega
  .exact hi x y k k' K L F
 .try simp only at K
  split at K
  .cases K;exact .inr (dC _)
  .exact .inl ⟨x,k,K,rfl⟩
def Step.newMap(hm:rQ w W μ m)(hi:∀x y k k',μ x=.at_ k->μ y=.at_ k'->k.b=k'.b->x=y)(K:∀b,W b->b<w.heap.size)
  {id:Nat} (H:m id=.fresh) {z:List A} (U:Keeps (λ _=>False) w w') (O:w'.heap[w.heap.size]? =some (.map #[] 0)):
  Step m (setM m [(id,.row ⟨false,0,z,[]⟩)]) w w' W (λ b=>W b\/b=w.heap.size) μ (λ x=>if x=id then .at_ ⟨w.heap.size,0,0⟩else μ x):=
 Step.newAny hm hi K H U (cS.1 O).1 (.inr (.inl ⟨λ _=>.inr rfl,rfl,rfl,#[],O,rfl,λ i e c Y _=>by simp at Y⟩))
def Step.writeAny(hm:rQ w W μ m)(hi:∀x y k k',μ x=.at_ k->μ y=.at_ k'->k.b=k'.b->x=y)(L:∀b,W b->b<w.heap.size)
  {x:Nat} {k:Blk} {r r':Row} (K:μ x=.at_ k) (M:m x=.row r) (U:r.ro=false) (Y:Keeps (λ b=>b=k.b) w w') (V:qN w' W μ r' k):
  Step m (setM m [(x,.row r')]) w w' W W μ μ:=by
 obtain⟨r0,F,H⟩:=hm.at_ K;rw[M]at F;cases F;have O:W k.b:=H.wr.1 U;have Z:∀b,b<w.heap.size->¬W b->¬b=k.b:=λ b _ B h2=>B (h2▸O);refine⟨Y.mono λ b _ h=>h▸⟨O,x,k,K,rfl⟩,λ _ _ h=>h,λ _ h=>.inl h,L,λ b h=>eK (L b h) Y.size,Old.refl μ,λ y=>?_,hi,λ y k' h=>.inl ⟨y,k',h,rfl⟩⟩;simp only[setM]
 by_cases h:y=x
 .subst h;simp only[cH];exact .inr ⟨k,K,V⟩
 .simp only[bX h];exact(hm y).goes Y Z (λ _ _ h=>h) (Old.refl μ) rfl (λ k1 B he=>h (hi y x k1 k B K he)) (λ _ h=>h)
def Step.writeMap(hm:rQ w W μ m)(hi:∀x y k k',μ x=.at_ k->μ y=.at_ k'->k.b=k'.b->x=y)(V:∀b,W b->b<w.heap.size)
  {x:Nat} {k:Blk} {r r':Row} (K:μ x=.at_ k) (F:m x=.row r) (U:r.ro=false) (B:r.sz=0) (H:r'.sz=0) (Z:r'.z=r.z)
  {es:Array MapEntry} (M:Keeps (λ b=>b=k.b) w w') (hh:w'.heap[k.b]? =some (.map es es.size)) (hn:es.size=r'.es.length)
  (he:∀(i:Nat) (e:MapEntry) (c:List A),es[i]? =some e->r'.es[i]? =some c->tH w W r.z i e c):
  Step m (setM m [(x,.row r')]) w w' W W μ μ:=by
 obtain⟨r0,L,O⟩:=hm.at_ K;rw[F]at L;cases L;have Y:W k.b:=O.wr.1 U;exact Step.writeAny hm hi V K F U M (.inr (.inl ⟨λ _=>Y,by rw[O.wr.2,B,H],H,es,hh,hn,λ i e c x1 x2=>by
  rw[Z];exact(he i e c x1 x2).keep M (λ b _ h1 h2=>h1 (h2▸Y)) (λ _ _ h=>h)⟩))
def Step.kill(hm:rQ w W μ m)(hi:∀x y k k',μ x=.at_ k->μ y=.at_ k'->k.b=k'.b->x=y)(L:∀b,W b->b<w.heap.size){x:Nat}:
  Step m (setM m [(x,.dead)]) w w W W μ (λ y=>if y=x then .dead else μ y):=by
 have H:Old μ (λ y=>if y=x then .dead else μ y):=λ y K=>by
  by_cases h:y=x
  .exact .inr (by simp[h])
  .exact .inl (by simp[h])
 refine⟨Keeps.refl _ w,λ _ _ h=>h,λ _ h=>.inl h,L,L,H,λ y=>?_,λ y z k k' K O U=>?_,λ y k K=>?_⟩
 .simp only[setM]
  by_cases h:y=x
  .simp only[cA h,qU]
  .simp only[bX h];exact(hm y).goes (Keeps.refl (λ _=>False) w) (λ _ _ _ h=>h) (λ _ _ h=>h) H (by simp[h]) (λ _ _ h=>h) (λ _ h=>h)
 .try simp only at K O
  split at K<;>split at O<;>first|(cases K;done)|(cases O;done)|exact hi y z k k' K O U
 .try simp only at K
  split at K
  .cases K
  .exact .inl ⟨y,k,K,rfl⟩
def Step.moved(hm:rQ w W μ m)(hi:∀x y k k',μ x=.at_ k->μ y=.at_ k'->k.b=k'.b->x=y)(hl:∀b,W b->b<w.heap.size)
  {x id:Nat} {k:Blk} {r r':Row} (L:μ x=.at_ k) (F:m x=.row r) (y0:r.ro=false) (M:r'.sz=r.sz) (x0:m id=.fresh)
  {us rest:List Value} {e:TypeId} (hk:Keeps (λ b=>b=k.b) w w') (hf:Flat (RepK w W μ) r'.sz us r'.es)
  (hh:w'.heap[k.b]? =some (.cells (us++rest).toArray e (0,0))) (ht:us.length+rest.length=k.tot) (z0:0<r.sz:=by first|assumption|omega|exact vL.pos' (by assumption)):
  Step m (setM m [(x,.dead),(id,.row r')]) w w' W W μ (λ y=>if y=id then .at_ k else if y=x then .dead else μ y):=by
 obtain⟨r0,h0,Y⟩:=hm.at_ L;rw[F]at h0;cases h0;have u0:μ id=.fresh:=by have:=hm id;rw[x0]at this;exact this
 have p0:id≠x:=λ e=>by subst e;rw[x0]at F;cases F
 have B:W k.b:=Y.wr.1 y0;have hD:∀b,b<w.heap.size->¬W b->¬b=k.b:=λ b _ V H=>V (H▸B);have O:Old μ (λ y=>if y=id then .at_ k else if y=x then .dead else μ y):=λ y K=>by
  by_cases h:y=id
  .subst h;exact absurd u0 K
  .by_cases H:y=x
   .subst H;exact .inr (by simp[h])
   .exact .inl (by simp[h,H])
 refine⟨hk.mono λ b _ h=>h▸⟨B,x,k,L,rfl⟩,λ _ _ h=>h,λ _ h=>.inl h,hl,λ b h=>eK (hl b h) hk.size,O,λ y=>?_,λ y z Z k2 K U he=>?_,λ y Z K=>?_⟩
 .simp only[setM]
  by_cases h:y=id
  .subst h;simp only[cH];exact .inr ⟨k,by simp,.inl ⟨λ _=>B,Y.wr.2.trans M.symm,M▸z0,us,rest,e,hh,ht,hf.mono λ u a F=>F.goes hk hD (λ _ _ h=>h) O⟩⟩
  .simp only[bX h]
   by_cases H:y=x
   .simp only[cA H,qU,bX h]
   .simp only[bX H];exact(hm y).goes hk hD (λ _ _ h=>h) O (by simp[h,H]) (λ Z V he=>H (hi y x Z k V L he)) (λ _ h=>h)
 .try simp only at K U
  have ex:∀y' k',¬y'=x->μ y'=.at_ k'->k'.b≠k.b:=λ y' k' hn V H=>hn (hi y' x k' k V L H);split at K<;>split at U
  .subst_vars;rfl
  .cases K;split at U
   .cases U
   .rename_i hn;exact absurd he.symm (ex _ _ hn U)
  .cases U;split at K
   .cases K
   .rename_i hn;exact absurd he (ex _ _ hn K)
  .split at K
   .cases K
   .split at U
    .cases U
    .exact hi y z Z k2 K U he
 .try simp only at K
  split at K
  .cases K;exact .inl ⟨x,k,L,rfl⟩
  .split at K
   .cases K
   .exact .inl ⟨y,Z,K,rfl⟩
def Step.trans{O:World}{U:Nat->Prop}{μ'':Nat->Loc}{m' Y:Nat->MS}(h:Step m m' w w' W W' μ μ')(k:Step m' Y w' O W' U μ' μ''):Step m Y w O W U μ μ'' where
 keeps:=h.keeps.trans k.keeps (λ x K V=>by
  obtain⟨h1,y,B,L,rfl⟩:=V;rcases h.live y B L with⟨z,F,M,H⟩|h2
  .exact⟨h.hW _ K h1,z,F,M,H⟩
  .omega)
 hW:=λ b hb h1=>h.hW b hb (k.hW b (eK hb h.keeps.size) h1)
 wsup:=λ b hb=>by
  rcases h.wsup b hb with h1|h1
  .rcases k.wsup b h1 with h2|⟨y,B,L,rfl⟩
   .exact .inl h2
   .rcases h.live y B L with⟨z,F,M,H⟩|h3
    .exact .inr ⟨z,F,M,H⟩
    .have:=h.wlt0 _ hb;omega
  .exact .inr h1
 wlt0:=h.wlt0
 wlt:=k.wlt
 old:=λ x K=>by
  rcases h.old x K with e|e
  .rcases k.old x (e▸K)with e2|e2
   .exact .inl (e2.trans e)
   .exact .inr e2
  .rcases k.old x (by rw[e];simp)with e2|e2
   .exact .inr (e2.trans e)
   .exact .inr e2
 mem:=k.mem
 inj:=k.inj
 live:=λ x B K=>by
  rcases k.live x B K with⟨y,ky,L,H⟩|h1
  .rcases h.live y ky L with⟨z,F,M,Z⟩|h2
   .exact .inl ⟨z,F,M,Z.trans H⟩
   .exact .inr (H▸h2)
  .have:=h.keeps.size;exact .inr om
end
def Jx:Value->A->Bool
 | .bool b,.bool c=>b==c
 | .int k n,.int k' n'=>k==k'&&n==n'
 | .string s,.str t=>s.data.toList==t.data.toList
 | .slice none 0 0,.full []=>true
 | .slice none 0 0,.sl []=>true
 | .nilFunc,.clo f []=>f==zV
 |_,_=>false
def zY:List Value->List A->Bool
 |[],[]=>true
 |v::vs,a::as=>Jx v a&&zY vs as
 |_,_=>false
def M7:Value->A->Bool
 | .agg vs,.agg as=>zY vs.toList as
 |v,a=>Jx v a
def chkX:Operand->PX->Bool
 | .tmp t,.t n=>t==n
 | .const _,.c .any=>true
 | .const v,.c a=>M7 v a
 | .global g,.g g'=>g==g'
 | .func f,.f f'=>f==f'
 |_,_=>false
def glob(G:Ag)(g:Nat):Option (List A):=
 match G with
 |[]=>none
 |q::r=>if q.1=g then some q.2 else glob r g
def xv(G:Ag)(fr:Nat->A):PX->A
 | .t n=>fr n
 | .c a=>a
 | .g g=>match glob G g with
  |some H=>.rd H 0
  |none=>.any
 | .f f=>.clo f []
def A.nc:A->A
 | .cnd _ a=>a
 |a=>a
def A.gd:A->Bool
 | .cnd g _=>g
 |_=>true
section
variable {w:World} {W:Nat→Prop} {μ:Nat→Loc}
def Q0{v:Value}{a:A}(h:Jx v a=true):RepC w W v a:=by
 unfold Jx at h;split at h
 .simp at h;subst h;exact .bool _
 .simp at h;obtain⟨rfl,rfl⟩:=h;exact .int _ _
 .rename_i s t;simp at h;have:s=t:=by cases s;cases t;simp only[ByteArray.mk.injEq];exact Array.toList_inj.1 (by simpa using h)
  subst this;exact .str _
 .exact .full _ _ _ (.sl0 _ _)
 .exact .sl0 _ _
 .simp at h;subst h;exact .nf
 .cases h
def nV{v:Value}{a:A}(h:RepC w W v a):RepK w W μ v a:=by
 cases h with
 |bool b=>exact .bool b
 |int k n=>exact .int k n
 |str s=>exact .str s
 |fn f=>exact .inl ⟨[],rfl,rfl,λ i u a h=>by simp at h⟩
 |nf=>exact .inr ⟨rfl,rfl,rfl⟩
 |sl0 a H=>exact .sl0 a H
 |sl b U H F es us hb L M O Y K V B=>exact .sl b U H F es us hb L M O Y K V B
 |full a n es h=>exact .full a n es h
 |bnd f us cs Z B=>exact .bnd f us cs Z B
def cloK{v:Value}{f:FuncId}{H:List A}(h:RepK w W μ v (.clo f H))(O:(f==zV)=false):∃vs:List Value,v=.func (.func f) #[] vs.toArray/\vs.length=H.length/\∀(i:Nat) (u:Value) (a:A),vs[i]? =some u->H[i]? =some a->RepP w W μ u a:=by
 rcases h with h|⟨_,rfl,_⟩
 .exact h
 .simp at O
def nT{v:Value}{a:A}(h:RepK w W μ v a):RepV w W μ v a:=by
 cases a with
 |agg H=>exact(by cases(show RepC w W v (.agg H)from h))
 |_=>exact h
def nN{v:Value}{a:A}(h:RepV w W μ v a):Rep w W μ v a:=by
 cases a with
 |any=>trivial
 |tup H=>exact(by cases(show RepC w W v (.tup H)from h))
 |cnd g a=>exact(by cases(show RepC w W v (.cnd g a)from h))
 |_=>exact h
def rD{v:Value}{a:A}(h:RepC w W v a):Rep w W μ v a:=nN (nT (nV h))
def DS:∀{vs:List Value} {as:List A},zY vs as=true->vs.length=as.length/\∀(i:Nat) (u:Value) (a:A),vs[i]? =some u->as[i]? =some a->RepC w W u a
 |[],[],_=>⟨rfl,by simp⟩
 |v::vs,a::as,h=>by
  simp only[zY,bY]at h;obtain⟨O,U⟩:=DS h.2;refine⟨by simp[O],λ i u b H hb=>?_⟩;cases i with
  |zero=>simp at H hb;subst H;subst hb;exact Q0 h.1
  |succ i=>simp at H hb;exact U i u b H hb
 |[],_::_,h=>by simp[zY]at h
 |_::_,[],h=>by simp[zY]at h
def YE{v:Value}{a:A}(h:M7 v a=true):RepV w W μ v a:=by
 unfold M7 at h;split at h
 .rename_i vs as;obtain⟨H,O⟩:=DS (w:=w) (W:=W) h;exact⟨vs.toList,by simp,H,λ i u a U K=>nV (O i u a U K)⟩
 .exact nT (nV (Q0 h))
def YF{G:Ag}{g:Nat}{H:List A}(h:glob G g=some H):(g,H)∈G:=by
 induction G with
 |nil=>simp[glob]at h
 |cons q r O=>
  unfold glob at h;split at h
  .rename_i hg;subst hg;simp at h;subst h;simp
  .exact List.mem_cons_of_mem _ (O h)
def GK{E:Env}{s:S}{a:Act}(H:SatW E s a w W μ){x:Operand}{O:PX}(h:chkX x O=true):Rep w W μ (a.eval x) (xv E.G s.fr O):=by
 unfold chkX at h;split at h
 .simp at h;subst h;exact H.fr _
 .trivial
 .exact nN (YE h)
 .rename_i g g';simp at h;subst h;simp only[xv];split
  .rename_i U hg;obtain⟨Y,B,F⟩:=H.glob g U (YF hg);exact⟨g,0,rfl,Y,B,λ j a M=>by simpa using F j a M⟩
  .trivial
 .simp at h;subst h;exact .inl ⟨[],rfl,rfl,by simp⟩
 .cases h
def Jy{v:Value}{a:A}(h:Rep w W μ v a)(hg:a.gd=true):Rep w W μ v a.nc:=by
 cases a with
 |cnd g a=>exact nN (h.1 hg)
 |_=>exact h
def Rep.toV{v:Value}{a:A}(h:Rep w W μ v a)(H:a.isV=true):RepV w W μ v a:=by cases a<;>first|exact h|(simp[A.isV]at H)
def RepV.toCells{v:Value}{a:A}(h:RepV w W μ v a)(K:a.isV=true):
  ∃us:List Value,v.cells=us.toArray/\us.length=a.cells.length/\(∀(i:Nat) (u:Value) (b:A),us[i]? =some u->a.cells[i]? =some b->RepK w W μ u b):=by
 have H:RepK w W μ v a->a.cells=[a]->∃us:List Value,v.cells=us.toArray/\us.length=a.cells.length/\(∀(i:Nat) (u:Value) (b:A),us[i]? =some u->a.cells[i]? =some b->RepK w W μ u b):=λ U Y=>by
  have F:=U.oneCell;refine⟨[v],?_,by simp[Y],λ i u b O hb=>?_⟩
  .cases v<;>first|rfl|(simp[Value.oneCell']at F)
  .rw[Y]at hb;cases i with
   |zero=>simp at O hb;subst O;subst hb;exact U
   |succ i=>simp at O
 cases a with
 |agg B=>obtain⟨vs,rfl,L,M⟩:=h;exact⟨vs,rfl,L,M⟩
 |tup B=>simp[A.isV]at K
 |cnd g a=>simp[A.isV]at K
 |any=>simp[A.isV]at K
 |rd B o=>simp[A.isV]at K
 |_=>exact H h rfl
def Rep.toCells{v:Value}{a:A}(h:Rep w W μ v a)(H:a.isV=true):
  ∃us:List Value,v.cells=us.toArray/\us.length=a.cells.length/\(∀(i:Nat) (u:Value) (b:A),us[i]? =some u->a.cells[i]? =some b->RepK w W μ u b):=(h.toV H).toCells H
def Rep.bool{v:Value}{b:Bool}(h:Rep w W μ v (.bool b)):v=.bool b:=by have:RepC w W v (.bool b):=h;cases this;rfl
def Rep.int{v:Value}{k:IntKind}{n:Int}(h:Rep w W μ v (.int k n)):v=.int k n:=by have:RepC w W v (.int k n):=h;cases this;rfl
def Rep.str{v:Value}{s:ByteArray}(h:Rep w W μ v (.str s)):v=.string s:=by have:RepC w W v (.str s):=h;cases this;rfl
def RepC.bnd_val{v:Value}{f:FuncId}{H:List A}(h:RepC w W v (.bnd f H)):∃us:List Value,v=.func (.func f) #[.agg us.toArray] #[]/\us.length=H.length/\∀(i:Nat) (u:Value) (c:A),us[i]? =some u->H[i]? =some c->RepC w W u c:=by
 cases h with
 |bnd f us H K O=>exact⟨us,rfl,K,O⟩
def RepK.toC{v:Value}{a:A}(h:RepK w W μ v a)(O:a.pure1=true):RepC w W v a:=by
 cases a with
 |clo f H=>
  cases H with
  |nil=>
   rcases h with⟨vs,rfl,K,_⟩|⟨rfl,rfl,_⟩
   .have:vs=[]:=dA K;subst this;exact .fn f
   .exact .nf
  |cons c H=>simp[A.pure1]at O
 |bool b=>exact h
 |int k n=>exact h
 |str s=>exact h
 |sl es=>exact h
 |full es=>exact h
 |bnd f H=>exact h
 |agg H=>exact h
 |_=>simp[A.pure1]at O
def RepC.open_sl{v:Value}{es:List (List A)}(h:RepC w W v (.sl es)):
  (es=[]/\∃a H,v=.slice a 0 H)\/
  ∃b O H U us,v=.slice (some ⟨b,O,none⟩) es.length H/\¬W b/\b<w.heap.size/\0<es.length/\es.length<=H/\Flat (RepC w W) U us es/\
   (∀(q:Nat) (u:Value),us[q]? =some u->w.cell? ⟨b,O+q,none⟩=some u):=by
 cases h with
 |sl0 a H=>exact .inl ⟨rfl,a,H,rfl⟩
 |sl b O H U es us hb L V Y B K Z hr=>
  refine .inr ⟨b,O,H,U,us,rfl,hb,L,V,Y,⟨K,B,λ i c j a F M=>?_⟩,Z⟩;have hi:=(cJ.1 F).1;have hj:=(cJ.1 M).1;rw[B i c F]at hj;have hq:i*U+j<us.length:=by rw[K];have:(i+1)*U<=es.length*U:=dR _ hi;rw[eD]at this;omega
  refine⟨us.getD (i*U+j) undef,?_,hr i c j a F M⟩;simp[hq]
def RepC.mk_sl{b off cap sz:Nat}{es:List (List A)}{us:List Value}(hb:¬W b)(K:b<w.heap.size)(H:es.length<=cap)(O:Flat (RepC w W) sz us es)
  (Y:∀(q:Nat) (u:Value),us[q]? =some u->w.cell? ⟨b,off+q,none⟩=some u):RepC w W (.slice (some ⟨b,off,none⟩) es.length cap) (.sl es):=by
 by_cases U:es=[]
 .subst U;exact .sl0 _ _
 .refine .sl b off cap sz es us hb K (gZ.2 U) H O.hs O.hl Y λ i c j a B F=>?_;obtain⟨u,M,L⟩:=O.ha i c j a B F
  simpa [M]using L
def RepC.of_full{v:Value}{es:List (List A)}(h:RepC w W v (.full es)):RepC w W v (.sl es)/\∃a,v=.slice a es.length es.length:=by
 cases h with
 |full a n es h=>
  refine⟨h,?_⟩;rcases h.open_sl with⟨rfl,U,H,K⟩|⟨b,O,H,Y,us,K,_⟩
  .cases K;exact⟨_,rfl⟩
  .cases K;exact⟨_,rfl⟩
end
def mT(P:Program)(o:Oper)(a:Act)(w:World)(W:Nat->Prop)(μ:Nat->Loc)(m:Nat->MS)(av:A)(m':Nat->MS):Prop:=
  ∃r v w' W' μ',(execOp a.eval o).run P w=.ok r w'/\(r=.value v\/r=.skip/\v=undef)/\Rep w' W' μ' v av/\Step m m' w w' W W' μ μ'
def SatW.refl{E:Env}{s:S}{a:Act}{w:World}{W:Nat->Prop}{μ:Nat->Loc}(H:SatW E s a w W μ):Step s.mem s.mem w w W W μ μ:=
  Step.quiet (Keeps.refl _ w) H.mem H.inj H.wlt
section
variable {P:Program} {o:Oper} {a:Act} {E:Env} {s:S} {w:World} {W:Nat→Prop} {μ:Nat→Loc}
def SatW.still(H:SatW E s a w W μ){v:Value}{av:A}(O:(execOp a.eval o).run P w=.ok (.value v) w)(K:Rep w W μ v av):mT P o a w W μ s.mem av s.mem:=
  ⟨_,v,w,W,μ,O,.inl rfl,K,H.refl⟩
def Q1(H:SatW E s a w W μ){x:Operand}{av:A}(ho:o.op=.move x\/o.op=.assign x)(K:Rep w W μ (a.eval x) av):mT P o a w W μ s.mem av s.mem:=by refine H.still (v:=a.eval x) ?_ K;rcases ho with ho|ho<;>simp[execOp,ho]
def YG(O:SatW E s a w W μ){c x y:Operand}{b p q:Bool}(ho:o.op=.pick c x y)(H:Rep w W μ (a.eval c) (.bool b))(K:b=true->Rep w W μ (a.eval x) (.bool p))(L:b=false->Rep w W μ (a.eval y) (.bool q)):
    mT P o a w W μ s.mem (.bool (cond b p q)) s.mem:=by
  refine O.still (v:=.bool (cond b p q)) ?_ (rD (.bool _));cases b
  .simp[execOp,ho,H.bool,asBool,(L rfl).bool]
  .simp[execOp,ho,H.bool,asBool,(K rfl).bool]
def YH(H:SatW E s a w W μ){t:TypeId}{x:Operand}{b:Bool}(ho:o.op=.unOp .not t x)(K:Rep w W μ (a.eval x) (.bool b)):mT P o a w W μ s.mem (.bool (!b)) s.mem:=by refine H.still (v:=.bool (!b)) ?_ (rD (.bool _));simp[execOp,ho,K.bool,Op.unary]
def YI(H:SatW E s a w W μ){t:TypeId}{x:Operand}{k:IntKind}{n:Int}(ho:o.op=.unOp .neg t x)(K:Rep w W μ (a.eval x) (.int k n)):mT P o a w W μ s.mem (.int k (k.wrap (0-n))) s.mem:=by refine H.still (v:=.int k (k.wrap (0-n))) ?_ (rD (.int _ _));simp[execOp,ho,K.int,Op.unary,Op.intArith]
def YJ(V:SatW E s a w W μ){U:BinOp}{t Z:TypeId}{x y:Operand}{F M av:A}{Y:Prop}(ho:o.op=.binOp U t x y Z)(K:Rep w W μ (a.eval x) F)(L:Rep w W μ (a.eval y) M)
    (O:DR U F M=some (Y,av)) (B:Y):mT P o a w W μ s.mem av s.mem:=by
  have H:∀v,(binOp U t (a.eval x) (a.eval y)).run P w=.ok v w->(∀i j,eqGuard U t i j (a.eval x) (a.eval y)=pure ())->RepC w W v av->mT P o a w W μ s.mem av s.mem:=λ v h1 h2 h3=>
    V.still (v:=v) (by simp[execOp,ho,h2,h1]) (rD h3)
  cases F<;>cases M<;>try(simp[DR]at O;done)
  · rename_i k n k' n'
    rw[K.int,L.int]at H;have hg:∀i j,eqGuard U t i j (Value.int k n) (Value.int k' n')=pure ():=by intro i j;cases U<;>rfl
    cases U <;>simp only[DR]at O<;>
      first
        |(cases O;refine H _ ?_ hg (.int _ _);simp[binOp,Op.shift,show¬n'<0 by omega];done)
        | (split at O
           · rename_i hk
             subst hk
             first
               | (cases O;refine H _ ?_ hg (.int _ _)
                  first
                    |(simp[binOp,Op.intArith];done)
                    |(simp[binOp,Op.intDiv,B];done)
                    |(simp[binOp,Op.intBits,nP];done))
               | (cases O;refine H _ ?_ hg (.bool _)
                  first
                    |(simp only[binOp,Op.intCmp,ne_eq,kP,cI,Qc,gt_iff_lt,ge_iff_le];done)
                    |(simp only[binOp,Op.intCmp,ne_eq,kP,cI,Qc];exact dZ (λ b=>Result.ok (Value.bool b) w) (by rw[dM];simp)))
               |(simp at O;done)
           .cases O)
  · rename_i sa sb
    rw[K.str,L.str]at H;have hg:∀i j,eqGuard U t i j (Value.string sa) (Value.string sb)=pure ():=by intro i j;cases U<;>rfl
    cases U<;>simp only[DR]at O<;>
      first
        |(cases O;done)
        | (cases O;refine H _ ?_ hg (by first|exact .str _|exact .bool _)
           first
             |(simp[binOp,Op.stringOp];done)
             | (have:¬IntKind.i64.max<((sa.size+sb.size:Nat):Int):=om
                simp only[binOp,Op.stringOp];rw[bX om];rfl))
def YK(O:SatW E s a w W μ){x:Operand}{i:Nat}{vs:List A}(ho:o.op=.extract x i)(K:Rep w W μ (a.eval x) (.tup vs))(hi:i<vs.length):mT P o a w W μ s.mem (vs.getD i .any) s.mem:=by
  obtain⟨us,L,V,U⟩:=K;have H:i<us.length:=om
  refine O.still (v:=us[i]) ?_ (nN (U i _ _ (by simp[H]) (by simp[hi])));simp[execOp,ho,L,Instr.extract,H]
def YL(U:SatW E s a w W μ){x:Operand}{t:TypeId}{H:Array TypeId}{b:ByteArray}(ho:o.op=.call {callee:=.builtin .len,args:=#[x],argTypes:=H})(O:H[0]? =some t)
    (K:P.underlying t=some .string) (L:Rep w W μ (a.eval x) (.str b)):mT P o a w W μ s.mem (.int .i64 b.size) s.mem:=by
  refine U.still (v:=goInt b.size) ?_ (rD (.int _ _));have Y:(Builtin.len_ H o.type #[a.eval x]).run P w=.ok (goInt b.size) w:=by simp[Builtin.len_,O,L.str,run_underlying K]
  simp[execOp,ho,resolve,invoke,builtin,Y]
def YM{id:Nat}(Z:SatW E s a w W μ){x:Operand}{t:TypeId}{O:Array TypeId}{av:A}{ef:Ef}(ho:o.op=.call {callee:=.builtin .len,args:=#[x],argTypes:=O})(x0:O[0]? =some t)
    (y0:∃e,P.underlying t=some (.slice e)) (L:Rep w W μ (a.eval x) av) (U:ev id s.mem .len [av]=some ef):mT P o a w W μ s.mem ef.v s.mem:=by
  have Y:∀n:Nat,(Builtin.len_ O o.type #[a.eval x]).run P w=.ok (goInt n) w->ef.v=.int .i64 n->mT P o a w W μ s.mem ef.v s.mem:=λ n h1 F=>by rw[F];refine Z.still (v:=goInt n) ?_ (rD (.int _ _));simp[execOp,ho,resolve,invoke,builtin,h1]
  have H:∀M n c,a.eval x=.slice M n c->(Builtin.len_ O o.type #[a.eval x]).run P w=.ok (goInt n) w:=by intro M n c K;obtain⟨e,U⟩:=y0;simp[Builtin.len_,x0,K,run_underlying U]
  cases av<;>simp only[ev]at U<;>try(cases U;done)
  · rename_i es
    cases U;have B:RepC w W (a.eval x) (.sl es):=L;rcases B.open_sl with⟨rfl,M,h0,K⟩|⟨b,z0,h0,sz,us,K,_⟩
    .exact Y 0 (H _ _ _ K) rfl
    .exact Y es.length (H _ _ _ K) rfl
  · rename_i es
    cases U;have B:RepC w W (a.eval x) (.full es):=L;obtain⟨_,M,K⟩:=B.of_full;exact Y es.length (H _ _ _ K) rfl
  · rename_i y lo n
    split at U
    · rename_i r hr
      cases U;refine Y n ?_ rfl;obtain⟨h1,F⟩:RepK w W μ (a.eval x) (.own y lo n):=L;have hm:=Z.mem y;rw[hr]at hm;rcases hm with⟨V,_⟩|⟨k,V,_⟩
      · rw[V]at F
        obtain⟨rfl,M,K⟩:=F;exact H _ _ _ K
      · rw[V]at F
        rcases F with⟨_,⟨rfl,M,K⟩|⟨h0,K,_⟩⟩
        .exact H _ _ _ K
        .exact H _ _ _ K
    .cases U
end
def aggD:TypeDesc->Bool
 | .struct _|.array _ _=>true
 |_=>false
def tyOk(P:Program)(T:TypeId)(H:Bool)(n:Nat):Bool:=
 (match P.underlying T with|some d=>aggD d==H|none=>false)&&(match P.info? T with|some i=>i.size==n|none=>false)&&(H||n==1)
section
variable {P:Program} {o:Oper} {a:Act} {E:Env} {s:S} {w:World} {W:Nat→Prop} {μ:Nat→Loc}
def Ai{T:TypeId}{d:TypeDesc}(h:P.underlying T=some d)(w:World):(isAgg T).run P w=.ok (aggD d) w:=by unfold isAgg;simp only[qc,run_underlying h,Oc];cases d<;>rfl
def wR{T:TypeId}{i:TypeInfo}(h:P.info? T=some i)(w:World):(sizeOf T).run P w=.ok i.size w:=by simp[sizeOf,typeInfo,h]
def YN{T:TypeId}{O:Bool}{n:Nat}(U:tyOk P T O n=true){b q:Nat}{vs:List Value}(V:vs.length=n)(M:∀(i:Nat) (u:Value),vs[i]? =some u->w.cell? ⟨b,q+i,none⟩=some u):
  (Instr.loadAt T (.pointer (some ⟨b,q,none⟩))).run P w=.ok (if O then .agg vs.toArray else vs.headD undef) w:=by
 unfold tyOk at U;simp only[bY]at U;obtain⟨⟨H,Y⟩,B⟩:=U;cases K:P.underlying T with
 |none=>simp[K]at H
 |some d=>
  cases L:P.info? T with
  |none=>simp[L]at Y
  |some i=>
   simp[K]at H;simp[L]at Y;subst Y;have F:∀(j:Nat) (v:Value),vs[j]? =some v->w.cell? ((⟨b,q,none⟩:Addr).add j)=some v:=λ j v Z=>by rw[Addr.add_lit];exact M j v Z
   cases O with
   |true=>have:=run_loadCells_list (P:=P) w ⟨b,q,none⟩ vs F;rw[V]at this;simp[Instr.loadAt,Instr.sureAddr,loadVar,Ai K,H,wR L,this]
   |false=>
    simp at B
    match vs,V with
    |[v],_=>have:=M 0 v rfl;simp[Instr.loadAt,Instr.sureAddr,loadVar,Ai K,H];rw[lV]at this;simp[this]
    |[],h=>simp[B]at h
    |_::_::_,h=>simp[B]at h
def M8{H:Bool}{n:Nat}{vs:List Value}{O:List A}(Y:H=false->n=1)(K:vs.length=n)(B:O.length=n)(U:∀(i:Nat) (u:Value) (b:A),vs[i]? =some u->O[i]? =some b->RepK w W μ u b):
  Rep w W μ (if H then .agg vs.toArray else vs.headD undef) (uH H O):=by
 cases H with
 |true=>exact⟨vs,rfl,by omega,U⟩
 |false=>
  have F:=Y rfl;subst F
  match vs,O,K,B with
  |[v],[c],_,_=>exact nN (nT (U 0 v c rfl rfl))
def M9{T:TypeId}{H:Bool}{n:Nat}(h:tyOk P T H n=true):H=false->n=1:=by
 intro K;unfold tyOk at h;simp only[bY]at h
 simpa [K]using h.2
def Jz{H:List A}{off n:Nat}(h:off+n<=H.length):(sub H off n).length=n:=by simp[sub];omega
def getElem?_sub(H:List A)(off n i:Nat):(sub H off n)[i]? =if i<n then H[off+i]? else none:=by simp only[sub,eA,eG]
def SatW.ptr(U:SatW E s a w W μ){v:Value}{y i j:Nat}{r:Row}(K:Rep w W μ v (.ptr y i j))(Y:s.mem y=.row r):
  ∃k,μ y=.at_ k/\v=.pointer (some ⟨k.b,i*k.sz+j,none⟩)/\vL w W μ r k:=by
 obtain⟨_,H⟩:RepK w W μ v (.ptr y i j):=K;have hm:=U.mem y;rw[Y]at hm;rcases hm with⟨O,_⟩|⟨k,O,B⟩
 .rw[O]at H;exact H.elim
 .rw[O]at H;exact⟨k,O,H.2,B.ok H.1⟩
def vL.pos{r:Row}{k:Blk}(h:vL w W μ r k):0<k.sz:=by have H:=h.2.1;have O:=h.2.2.1;omega
def GL{y:Nat}{k:Blk}(h:μ y=.at_ k)(H:0<k.sz)(i j:Nat):Rep w W μ (.pointer (some ⟨k.b,i*k.sz+j,none⟩)) (.ptr y i j):=by refine(show RepK w W μ _ (.ptr y i j)from⟨rfl,?_⟩);rw[h];exact⟨H,rfl⟩
def SatW.own(Y:SatW E s a w W μ){v:Value}{y lo n:Nat}{r:Row}(K:Rep w W μ v (.own y lo n))(B:s.mem y=.row r):
  (n=0/\∃a,v=.slice a 0 0)\/∃k H,μ y=.at_ k/\v=.slice (some ⟨k.b,lo*k.sz,none⟩) n H/\(lo+H)*k.sz<=k.tot/\n<=H/\lo+H<=maxLen/\vL w W μ r k:=by
 obtain⟨_,O⟩:RepK w W μ v (.own y lo n):=K;have hm:=Y.mem y;rw[B]at hm;rcases hm with⟨U,_⟩|⟨k,U,F⟩
 .rw[U]at O;exact .inl O
 .rw[U]at O;rcases O with⟨M,O|⟨H,L,V,Z,h8⟩⟩
  .exact .inl O
  .exact .inr ⟨k,H,U,L,V,Z,h8,F.ok M⟩
def SatW.posO(U:SatW E s a w W μ){v:Value}{y lo n:Nat}{r:Row}(K:Rep w W μ v (.own y lo n))(Y:s.mem y=.row r):0<r.sz:=by
 obtain⟨_,O⟩:RepK w W μ v (.own y lo n):=K;have hm:=U.mem y;rw[Y]at hm;rcases hm with⟨_,_,H⟩|⟨k,H,B⟩
 .exact H
 .rw[H]at O;have F:=O.1;have M:=B.wr.2;omega
def Q2{id:Nat}(hs:SatW E s a w W μ){M:Value}{T:TypeId}{ag:Bool}{n:Nat}{av:A}{ef:Ef}(hT:tyOk P T ag n=true)(hx:Rep w W μ M av)
  (Z:ev id s.mem (.load n ag) [av]=some ef) (B:ef.obl):∃b q u,M=.pointer (some ⟨b,q,none⟩)/\(loadVar T ⟨b,q,none⟩).run P w=.ok u w/\Rep w W μ u ef.v:=by
 have h0:∀(b q:Nat) (vs:List Value) (U:List A),M=.pointer (some ⟨b,q,none⟩)->vs.length=n->U.length=n->(∀(i:Nat) (u:Value),vs[i]? =some u->w.cell? ⟨b,q+i,none⟩=some u)->
   (∀(i:Nat) (u:Value) (b:A),vs[i]? =some u->U[i]? =some b->RepK w W μ u b)->ef.v=uH ag U->∃b q u,M=.pointer (some ⟨b,q,none⟩)/\(loadVar T ⟨b,q,none⟩).run P w=.ok u w/\Rep w W μ u ef.v:=λ b q vs U h1 h2 h3 h4 h5 h6=>by
  rw[h6];exact⟨b,q,if ag then .agg vs.toArray else vs.headD undef,h1,YN hT h2 h4,M8 (M9 hT) h2 h3 h5⟩
 cases av<;>simp only[ev]at Z<;>try(cases Z;done)
 .rename_i y i j;split at Z
  .rename_i r hr;cases Z;obtain⟨h1,h2⟩:=B;have hk:RepK w W μ (M) (.ptr y i j):=hx;obtain⟨k,h3,hk,_,h5,h6,us,p0,e,h7,h8,hf⟩:=hs.ptr hx hr
   .have Y:r.es[i]? =some (r.es.getD i r.z):=by simp[h1]
    have K:=hf.hs i _ Y;have x0:=hf.split Y;refine h0 k.b (i*k.sz+j) ((((us.drop (i*r.sz)).take r.sz).drop j).take n) _ hk ?_ (Jz om) ?_ ?_ rfl
    .have:=x0.hl;simp only[dD,dS]at this⊢;simp at this;omega
    .intro q u O;rw[eA]at O;split at O
     .rename_i y0;rw[eG,eA]at O;split at O
      .rw[eG]at O;simp only[World.cell?,h7,h5];have:i*r.sz+j+q=i*r.sz+(j+q):=om
       simp only[this,oc,bZ,cI,fO];rw[dX (cJ.1 O).1,O]
      .cases O
     .cases O
    .intro q u b O hb;rw[getElem?_sub]at hb;split at hb
     .rename_i y0;rw[eA,cA y0,eG]at O;obtain⟨u',F,u0⟩:=x0.ha 0 _ (j+q) b rfl hb;simp only[kH,eC]at F;rw[O]at F;cases F;exact u0
     .cases hb
  .cases Z
 .rename_i U H;cases Z;obtain⟨b,q,hv,hb,V,Y⟩:RepK w W μ (M) (.rd U H):=hx;have K:H+n<=U.length:=B;have:∃vs:List Value,vs.length=n/\∀i,i<n->∃c,U[H+i]? =some c/\w.cell? ⟨b,q+(H+i),none⟩=some (vs.getD i undef)/\RepC w W (vs.getD i undef) c:=by
   refine⟨(List.range n).map λ i=>(w.cell? ⟨b,q+(H+i),none⟩).getD undef,by simp,λ i L=>?_⟩;have V:H+i<U.length:=om
   obtain⟨u,hu,hr⟩:=Y (H+i) U[H+i] (by simp[V]);refine⟨U[H+i],by simp[V],?_,?_⟩
   .simp[L,hu]
   .simpa [L,hu]using hr
  obtain⟨vs,hl,z0⟩:=this;refine h0 b (q+H) vs _ hv hl (Jz K) ?_ ?_ rfl
  .intro i u L;obtain⟨c,_,h2,_⟩:=z0 i (by have:=(cJ.1 L).1;omega);rw[fX,h2];simp[L]
  .intro i u c L Y;obtain⟨c',h1,_,h3⟩:=z0 i (by have:=(cJ.1 L).1;omega);rw[getElem?_sub]at Y;split at Y
   .rw[h1]at Y;cases Y;simp[L]at h3;exact nV h3
   .cases Y
def YO{id:Nat}(U:SatW E s a w W μ){x:Operand}{T:TypeId}{Y:Bool}{n:Nat}{av:A}{O:Ef}(ho:o.op=.load T x)(B:tyOk P T Y n=true)(K:Rep w W μ (a.eval x) av)
  (F:ev id s.mem (.load n Y) [av]=some O) (H:O.obl):mT P o a w W μ s.mem O.v s.mem:=by
 obtain⟨b,q,u,M,L,V⟩:=Q2 U B K F H;refine U.still (v:=u) ?_ V;simp only[execOp,ho,M,qc];show(((loadVar T ⟨b,q,none⟩).run P w).andThen _)=_;rw[L];rfl
def JA(P:Program)(T:TypeId)(f off:Nat):Bool:=
 match P.underlying T with
 |some (.struct fs)=>match fs[f]? with
  |some g=>g.offset==off&&(match P.info? g.type with|some i=>i.size !=0|none=>false)
  |none=>false
 |_=>false
def YP{T:TypeId}{f off b q:Nat}(h:JA P T f off=true):(Instr.fieldAt T (.pointer (some ⟨b,q,none⟩)) f).run P w=.ok (.pointer (some ⟨b,q+off,none⟩)) w:=by
 unfold JA at h;split at h
 .rename_i Y U;split at h
  .rename_i g hg;simp only[bY]at h;obtain⟨O,H⟩:=h;split at H
   .rename_i i K;simp at O H;subst O;simp[Instr.fieldAt,run_underlying U,hg,Instr.sureAddr,fieldPlace,wR K,H,Addr.add_lit]
   .cases H
  .cases h
 .cases h
def YQ{id:Nat}(B:SatW E s a w W μ){x:Operand}{T:TypeId}{f off:Nat}{av:A}{Y:Ef}(ho:o.op=.fieldAddr T x f)(M:JA P T f off=true)(L:Rep w W μ (a.eval x) av)
  (H:ev id s.mem (.faddr off) [av]=some Y):mT P o a w W μ s.mem Y.v s.mem:=by
 have O:∀b q,a.eval x=.pointer (some ⟨b,q,none⟩)->Rep w W μ (.pointer (some ⟨b,q+off,none⟩)) Y.v->mT P o a w W μ s.mem Y.v s.mem:=λ b q V Z=>
  B.still (by simp only[execOp,ho,V,qc,YP M,Oc,Qc]) Z
 cases av<;>simp only[ev]at H<;>try(cases H;done)
 .rename_i y i j;split at H
  .rename_i r hr;cases H;obtain⟨k,h3,hk,U⟩:=B.ptr L hr;exact O _ _ hk (by rw[fX];exact GL h3 U.pos i (j+off))
  .cases H
 .rename_i F q;cases H;obtain⟨b,q',hv,hb,K,hc⟩:RepK w W μ (a.eval x) (.rd F q):=L;exact O _ _ hv (show RepK w W μ _ (.rd F (q+off))from⟨b,q',by rw[fX],hb,K,hc⟩)
end
section
variable {P:Program} {o:Oper} {a:Act} {E:Env} {s:S} {w:World} {W:Nat→Prop} {μ:Nat→Loc}
def szIs(P:Program)(e:TypeId)(sz:Nat):Bool:=match P.info? e with|some i=>i.size==sz|none=>false
def zZ{e:TypeId}{sz:Nat}(h:szIs P e sz=true)(w:World):(sizeOf e).run P w=.ok sz w:=by
 unfold szIs at h;split at h
 .rename_i i H;simp at h;subst h;exact wR H w
 .cases h
def JB(P:Program)(T:TypeId)(n sz:Nat):Bool:=match P.underlying T with|some (.array m e)=>m==n&&szIs P e sz|_=>false
def DT(P:Program)(T:TypeId)(sz:Nat):Bool:=match P.underlying T with|some (.slice e)=>szIs P e sz|_=>false
def YR{T:TypeId}{n sz:Nat}(h:JB P T n sz=true):∃e,P.underlying T=some (.array n e)/\szIs P e sz=true:=by
 unfold JB at h;split at h
 .rename_i m e H;simp at h;obtain⟨rfl,h⟩:=h;exact⟨e,H,h⟩
 .cases h
def Q3{T:TypeId}{sz:Nat}(h:DT P T sz=true):∃e,P.underlying T=some (.slice e)/\szIs P e sz=true:=by
 unfold DT at h;split at h
 .rename_i e H;exact⟨e,H,h⟩
 .cases h
def YS{id:Nat}(V:SatW E s a w W μ){x i:Operand}{T:TypeId}{n sz:Nat}{M ai:A}{B:Ef}(ho:o.op=.indexAddr T x i)(hT:JB P T n sz=true)(Z:Rep w W μ (a.eval x) M)(hi:Rep w W μ (a.eval i) ai)
  (U:ev id s.mem (.iaA n sz) [M,ai]=some B) (H:B.obl):mT P o a w W μ s.mem B.v s.mem:=by
 obtain⟨e,hu,hz⟩:=YR hT;cases ai<;>try(simp only[ev]at U;cases U;done)
 rename_i k q;have O:∀(b p:Nat),a.eval x=.pointer (some ⟨b,p,none⟩)->0<=q->q<n->Rep w W μ (.pointer (some ⟨b,p+q.toNat*sz,none⟩)) B.v->mT P o a w W μ s.mem B.v s.mem:=λ b p h1 h2 K h4=>
  V.still (v:=.pointer (some ⟨b,p+q.toNat*sz,none⟩)) (by simp[execOp,ho,h1,hi.int,Instr.indexAt,asIntOf,run_underlying hu,Instr.sureAddr,h2,K,zZ hz,Addr.add_lit]) h4
 cases M<;>simp only[ev]at U<;>try(cases U;done)
 .rename_i y i j;split at U
  .rename_i r hr;cases U;have Y:pB q.toNat n=q.toNat:=by unfold pB;rw[cA (by have:=H.1;have:=H.2;omega)]
   simp only[Y]at O⊢;obtain⟨k',K,hk,F⟩:=V.ptr Z hr;exact O _ _ hk H.1 H.2 (by rw[fX];exact GL K F.pos i _)
  .cases U
 .rename_i cs p;cases U;have Y:pB q.toNat n=q.toNat:=by unfold pB;rw[cA (by have:=H.1;have:=H.2;omega)]
  simp only[Y]at O⊢;obtain⟨b,q',hv,hb,L,hc⟩:RepK w W μ (a.eval x) (.rd cs p):=Z;exact O _ _ hv H.1 H.2 (show RepK w W μ _ (.rd cs _)from⟨b,q',by rw[fX],hb,L,hc⟩)
def YT{id:Nat}(hs:SatW E s a w W μ){x i:Operand}{T:TypeId}{sz:Nat}{z:List A}{ax ai:A}{F:Ef}(ho:o.op=.indexAddr T x i)(hT:DT P T sz=true)(hx:Rep w W μ (a.eval x) ax)(hi:Rep w W μ (a.eval i) ai)
  (U:ev id s.mem (.iaS sz z) [ax,ai]=some F) (H:F.obl):mT P o a w W μ s.mem F.v s.mem:=by
 obtain⟨e,hu,hz⟩:=Q3 hT;cases ai<;>try(simp only[ev]at U;cases U;done)
 rename_i k q;have h0:∀(b p n c:Nat),a.eval x=.slice (some ⟨b,p,none⟩) n c->0<=q->q<n->Rep w W μ (.pointer (some ⟨b,p+q.toNat*sz,none⟩)) F.v->mT P o a w W μ s.mem F.v s.mem:=λ b p n c K M L V=>
  hs.still (v:=.pointer (some ⟨b,p+q.toNat*sz,none⟩)) (by simp[execOp,ho,K,hi.int,Instr.indexAt,asIntOf,run_underlying hu,M,L,zZ hz,Addr.add_lit]) V
 have O:∀es,RepC w W (a.eval x) (.sl es)->(0<=q/\q<es.length/\(es.getD q.toNat z).length=sz)->F.v=.rd (es.getD q.toNat z) 0->mT P o a w W μ s.mem F.v s.mem:=λ es K M L=>by
  obtain⟨V,Z,h6⟩:=M;rcases K.open_sl with⟨rfl,_⟩|⟨b,x0,u0,y0,us,hv,hb,hlt,hn,r0,hf,hc⟩
  .simp at Z;omega
  .have p0:q.toNat<es.length:=om
   have z0:es[q.toNat]? =some (es.getD q.toNat z):=by simp[p0]
   have Y:y0=sz:=by rw[<-hf.hs _ _ z0,h6]
   subst Y;refine h0 b x0 _ _ hv V Z ?_;rw[L];refine(show RepK w W μ _ (.rd _ 0)from⟨b,x0+q.toNat*y0,by simp,hb,hlt,λ j c hj=>?_⟩);obtain⟨u,q0,hr⟩:=hf.ha _ _ _ _ z0 hj;exact⟨u,by rw[fX];exact hc _ _ q0,hr⟩
 cases ax<;>simp only[ev]at U<;>try(cases U;done)
 .rename_i es;cases U;exact O es hx H rfl
 .rename_i es;cases U;exact O es (RepC.of_full hx).1 H rfl
 .rename_i y lo n;split at U
  .rename_i r hr;cases U;obtain⟨K,M,L⟩:=H;rcases hs.own hx hr with⟨rfl,_⟩|⟨k',u0,V,Z,h6,h7,h8,B⟩
   .simp at M;omega
   .have Y:k'.sz=sz:=B.2.1.trans L;refine h0 _ _ _ _ Z K M ?_;have:=GL (w:=w) (W:=W) V B.pos (lo+q.toNat) 0;rw[lV,eD,Y]at this;rw[Y];exact this
  .cases U
def Na{vs:List Value}{i:Nat}(h:i<vs.length):(vs.drop i).take 1=[vs[i]]:=by rw[gN h,lZ,lX]
def YU{id:Nat}(hs:SatW E s a w W μ){x i:Operand}{T:TypeId}{n sz:Nat}{U:Bool}{M ai:A}{ef:Ef}(ho:o.op=.index T x i)(H:(match P.underlying T with|some (.array m e)=>m==n&&tyOk P e U sz|_=>false)=true)(hx:Rep w W μ (a.eval x) M)(hi:Rep w W μ (a.eval i) ai)
  (Z:ev id s.mem (.idxA n sz U) [M,ai]=some ef) (Y:ef.obl):mT P o a w W μ s.mem ef.v s.mem:=by
 cases M<;>cases ai<;>simp only[ev]at Z<;>try(cases Z;done)
 rename_i cs k q;cases Z;obtain⟨h1,h2,h3⟩:=Y;have B:pB q.toNat n=q.toNat:=by unfold pB;rw[cA om]
 simp only[B]
 clear B
 split at H
 .rename_i m e hu;simp only[bY,dL]at H;obtain⟨rfl,H⟩:=H;obtain⟨vs,hv,hl,hr⟩:RepV w W μ (a.eval x) (.agg cs):=hx;have hq:q.toNat<m:=om
  have h0:q.toNat*sz+sz<=cs.length:=by have:(q.toNat+1)*sz<=m*sz:=dR _ hq;rw[eD]at this;omega
  have O:(part e vs.toArray (q.toNat*sz)).run P w=.ok (if U then .agg ((vs.drop (q.toNat*sz)).take sz).toArray else((vs.drop (q.toNat*sz)).take sz).headD undef) w:=by
   have y0:=H;unfold tyOk at H;simp only[bY]at H;obtain⟨⟨F,h5⟩,h6⟩:=H;cases L:P.underlying e with
   |none=>simp[L]at F
   |some d=>
    cases K:P.info? e with
    |none=>simp[K]at h5
    |some i'=>
     simp[L]at F;simp[K]at h5;subst h5;cases U with
     |true=>simp[part,Ai L,F,wR K]
     |false=>
      simp at h6;have V:q.toNat*i'.size<vs.length:=om
      simp only[part,qc,Ai L,F,Oc,bZ,cI];rw[h6]at V⊢;simp only[gB]at V⊢;have:=Na V;simp[this,V]
  refine hs.still (v:=if U then .agg ((vs.drop (q.toNat*sz)).take sz).toArray else((vs.drop (q.toNat*sz)).take sz).headD undef) ?_
   (M8 (M9 H) (by simp;omega) (Jz h0) λ i u b hi hb=>?_)
  .have hz:(sizeOf e).run P w=.ok sz w:=by
    unfold tyOk at H;simp only[bY]at H;cases K:P.info? e with
    |none=>simp[K]at H
    |some i'=>simp[K]at H;rw[<-H.1.2];exact wR K w
   simp[execOp,ho,hv,hi.int,Instr.index,asIntOf,run_underlying hu,h1,h2,hz,O]
  .rw[getElem?_sub]at hb;split at hb
   .rename_i x0;rw[eA,cA x0,eG]at hi;exact hr _ u b hi hb
   .cases hb
 .cases H
def YV{id:Nat}(hs:SatW E s a w W μ){x:Operand}{T:TypeId}{f off n:Nat}{U:Bool}{F:A}{M:Ef}(ho:o.op=.field T x f)
  (H:(match P.underlying T with|some (.struct fs)=>(match fs[f]? with|some g=>g.offset==off&&tyOk P g.type U n|none=>false)|_=>false)=true) (hx:Rep w W μ (a.eval x) F)
  (Z:ev id s.mem (.field off n U) [F]=some M) (Y:M.obl):mT P o a w W μ s.mem M.v s.mem:=by
 cases F<;>simp only[ev]at Z<;>try(cases Z;done)
 rename_i cs;cases Z;have h0:off+n<=cs.length:=Y;split at H
 .rename_i fs hu;split at H
  .rename_i g hg;simp only[bY,dL]at H;obtain⟨rfl,H⟩:=H;obtain⟨vs,hv,hl,hr⟩:RepV w W μ (a.eval x) (.agg cs):=hx;have O:(part g.type vs.toArray g.offset).run P w=.ok (if U then .agg ((vs.drop g.offset).take n).toArray else((vs.drop g.offset).take n).headD undef) w:=by
    have y0:=H;unfold tyOk at H;simp only[bY]at H;obtain⟨⟨B,h5⟩,h6⟩:=H;cases K:P.underlying g.type with
    |none=>simp[K]at B
    |some d=>
     cases L:P.info? g.type with
     |none=>simp[L]at h5
     |some i'=>
      simp[K]at B;simp[L]at h5;subst h5;cases U with
      |true=>simp[part,Ai K,B,wR L]
      |false=>
       simp at h6;have V:g.offset<vs.length:=om
       simp only[part,qc,Ai K,B,Oc,bZ,cI];rw[h6];have:=Na V;simp[this,V]
   refine hs.still (v:=if U then .agg ((vs.drop g.offset).take n).toArray else((vs.drop g.offset).take n).headD undef) ?_
    (M8 (M9 H) (by simp;omega) (Jz h0) λ i u b hi hb=>?_)
   .simp[execOp,ho,hv,Instr.field,run_underlying hu,hg,asAgg,O]
   .rw[getElem?_sub]at hb;split at hb
    .rename_i x0;rw[eA,cA x0,eG]at hi;exact hr _ u b hi hb
    .cases hb
  .cases H
 .cases H
def YW(H:SatW E s a w W μ){x:Operand}{T T2:TypeId}{k O:IntKind}{n:Int}(ho:o.op=.convert T T2 x)(U:(∃d,P.underlying T=some d)/\P.underlying T2=some (.int k))(K:Rep w W μ (a.eval x) (.int O n)):
  mT P o a w W μ s.mem (.int k (k.wrap n)) s.mem:=by
 obtain⟨⟨d,Y⟩,B⟩:=U;refine H.still (v:=.int k (k.wrap n)) ?_ (rD (.int _ _));simp only[execOp,ho,K.int,convert,qc,run_underlying Y,run_underlying B,Oc];cases d<;>simp[Conv.intToInt]
def YX(O:SatW E s a w W μ){x y:Operand}{H:Array TypeId}{k:IntKind}{p q:Int}(ho:o.op=.call {callee:=.builtin .min,args:=#[x,y],argTypes:=H})(K:Rep w W μ (a.eval x) (.int k p))(L:Rep w W μ (a.eval y) (.int k q)):
  mT P o a w W μ s.mem (.int k (if q<p then q else p)) s.mem:=by
 refine O.still (v:=.int k (if q<p then q else p)) ?_ (rD (.int _ _));simp[execOp,ho,resolve,invoke,builtin,Builtin.min_,K.int,L.int,Builtin.min2]
def YY(O:SatW E s a w W μ){x y:Operand}{H:Array TypeId}{k:IntKind}{p q:Int}(ho:o.op=.call {callee:=.builtin .max,args:=#[x,y],argTypes:=H})(K:Rep w W μ (a.eval x) (.int k p))(L:Rep w W μ (a.eval y) (.int k q)):
  mT P o a w W μ s.mem (.int k (if p<q then q else p)) s.mem:=by
 refine O.still (v:=.int k (if p<q then q else p)) ?_ (rD (.int _ _));simp[execOp,ho,resolve,invoke,builtin,Builtin.max_,K.int,L.int,Builtin.max2]
def YZ{id:Nat}(U:SatW E s a w W μ){x:Operand}{F:A}{M:Ef}(ho:o.op=.nilCheck x)(K:Rep w W μ (a.eval x) F)(O:ev id s.mem .nilck [F]=some M)(Y:M.obl):mT P o a w W μ s.mem M.v s.mem:=by
 cases F<;>simp only[ev]at O<;>try(cases O;done)
 .rename_i y i j;split at O
  .rename_i r V;cases O;obtain⟨k,_,Z,_⟩:=U.ptr K V;refine U.still (v:=a.eval x) ?_ K;simp[execOp,ho,Z]
  .cases O
 .rename_i B h0;cases O;have H:=K;obtain⟨b,q,L,_⟩:RepK w W μ (a.eval x) (.rd B h0):=H;refine U.still (v:=a.eval x) ?_ K;simp[execOp,ho,L]
 .rename_i f B;cases O;have H:=K;obtain⟨vs,L,_⟩:=cloK (show RepV w W μ (a.eval x) (.clo f B)from H) Y;refine U.still (v:=a.eval x) ?_ K;simp[execOp,ho,L]
 .rename_i f B;cases O;have H:RepC w W (a.eval x) (.bnd f B):=K;obtain⟨us,L,_⟩:=RepC.bnd_val H;refine U.still (v:=a.eval x) ?_ K;simp[execOp,ho,L]
def Y0(U:SatW E s a w W μ){x y:Operand}{T T2:TypeId}{H p q:Bool}(ho:o.op=.binOp (if H then .neq else .eql) T x y T2)(Y:P.underlying T=some .bool)(K:Rep w W μ (a.eval x) (.bool p))(L:Rep w W μ (a.eval y) (.bool q)):
  mT P o a w W μ s.mem (.bool (if H then !decide (p=q)else decide (p=q))) s.mem:=by
 refine U.still (v:=.bool (if H then !decide (p=q)else decide (p=q))) ?_ (rD (.bool _));have h:=run_equalIn_bool' (P:=P) w 9999 T p q Y;cases H
 .have O:o.op=.binOp .eql T x y T2:=ho;simp[execOp,O,K.bool,L.bool,eqGuard,binOp,Op.equal,Op.maxDepth,h];cases p<;>cases q<;>rfl
 .have O:o.op=.binOp .neq T x y T2:=ho;simp[execOp,O,K.bool,L.bool,eqGuard,binOp,Op.equal,Op.maxDepth,h];cases p<;>cases q<;>rfl
end
section
variable {P:Program} {o:Oper} {a:Act} {E:Env} {s:S} {w:World} {W:Nat→Prop} {μ:Nat→Loc}
def BN(H:Bool)(len cap l h m:Nat)(lo hi mx:Option Value)(hm:mx=none/\m=cap\/∃k,mx=some (.int k m)/\hi≠none/\m<=cap)(B:hi=none/\h=len\/∃k,hi=some (.int k h)/\h<=m)
  (K:lo=none/\l=0\/∃k,lo=some (.int k l)/\l<=h):(Instr.sliceBounds H len cap lo hi mx).run P w=.ok (l,h,m) w:=by
 rcases hm with⟨rfl,rfl⟩|⟨km,rfl,O,F⟩
 .rcases B with⟨rfl,rfl⟩|⟨M,rfl,U⟩<;>rcases K with⟨rfl,rfl⟩|⟨kl,rfl,Y⟩<;>simp[Instr.sliceBounds,Instr.sliceBound,asIntOf, *]
 .rcases B with⟨rfl,rfl⟩|⟨M,rfl,U⟩
  .exact absurd rfl O
  .rcases K with⟨rfl,rfl⟩|⟨kl,rfl,Y⟩<;>simp[Instr.sliceBounds,Instr.sliceBound,asIntOf, *]
structure Bds (lo hi mx:Option Value) (l h m:Option Int):Prop where
 l:lo=none/\l=none\/∃k n,lo=some (.int k n)/\l=some n
 h:hi=none/\h=none\/∃k n,hi=some (.int k n)/\h=some n
 m:mx=none/\m=none\/∃k n,mx=some (.int k n)/\m=some n
def BO(P:Program)(T:TypeId)(sz:Nat):Bool:=match P.underlying T with|some (.slice e)=>szIs P e sz|some .string=>true|_=>false
def DU{T e:TypeId}{sz:Nat}(H:P.underlying T=some (.slice e))(O:szIs P e sz=true)(ad:Option Addr)(n c l h m:Nat)(lo hi mx:Option Value)
  (hb:(Instr.sliceBounds true n c lo hi mx).run P w=.ok (l,h,m) w):
  (Instr.sliceAt T (.slice ad n c) lo hi mx).run P w=.ok (.slice (if m=l then ad else ad.map (·.add (l*sz))) (h-l) (m-l)) w:=by
 simp[Instr.sliceAt,Instr.slice,run_underlying H,hb,zZ O]
def Y1{T:TypeId}(H:P.underlying T=some .string)(b:ByteArray)(l h m:Nat)(lo hi:Option Value)
  (hb:(Instr.sliceBounds false b.size b.size lo hi none).run P w=.ok (l,h,m) w):
  (Instr.sliceAt T (.string b) lo hi none).run P w=.ok (.string (b.extract l h)) w:=by
 simp[Instr.sliceAt,Instr.slice,run_underlying H,hb]
def Y2{b off cap sz l h:Nat}{es:List (List A)}{us:List Value}{c:Nat}(hb:¬W b)(L:b<w.heap.size)(U:l<=h)(M:h<=es.length)(Y:h<=c)(B:Flat (RepC w W) sz us es)
  (F:∀(q:Nat) (u:Value),us[q]? =some u->w.cell? ⟨b,off+q,none⟩=some u) (_hcap:es.length<=cap):
  RepC w W (.slice (if c=l then some ⟨b,off,none⟩else(some (⟨b,off,none⟩:Addr)).map (·.add (l*sz))) (h-l) (c-l)) (.sl ((es.take h).drop l)):=by
 have K:((es.take h).drop l).length=h-l:=by simp;omega
 by_cases O:c=l
 .have:h-l=0:=om
  rw[cA O,this];have:(es.take h).drop l=[]:=dA om;rw[this];exact .sl0 _ _
 .rw[bX O];simp only[xm,Addr.add_lit];rw[<-K];refine RepC.mk_sl hb L om ((B.take h).drop l) λ q u H=>?_;rw[eG,eA]at H;split at H
  .rw[fX];exact F _ _ H
  .cases H
def Q4(hs:SatW E s a w W μ){x:Operand}{lo hi mx:Option Operand}{T:TypeId}{sz:Nat}{ax av:A}{l h m:Option Int}{j0:Prop}(ho:o.op=.slice T x lo hi mx)(hT:BO P T sz=true)(hx:Rep w W μ (a.eval x) ax)
  (r0:(∃b,ax=.str b)↔P.underlying T=some .string)
  (hb:Bds (lo.map a.eval) (hi.map a.eval) (mx.map a.eval) l h m) (he:sB s.mem sz ax l h m=some (j0,av)) (B:j0):mT P o a w W μ s.mem av s.mem:=by
 have Y:∀v,(Instr.sliceAt T (a.eval x) (lo.map a.eval) (hi.map a.eval) (mx.map a.eval)).run P w=.ok v w->Rep w W μ v av->mT P o a w W μ s.mem av s.mem:=λ v F Z=>
  hs.still (v:=v) (by simp only[execOp,ho,qc,F,Oc,Qc]) Z
 generalize lo.map a.eval=lo' at hb Y;generalize hi.map a.eval=K at hb Y;generalize mx.map a.eval=mx' at hb Y;obtain⟨hl,hh,hm⟩:=hb;have x0:∀(es:List (List A)) (z0:Bool),RepC w W (a.eval x) (.sl es)->(∀b,ax≠.str b)->0<=l.getD 0->l.getD 0<=h.getD es.length->h.getD es.length<=es.length->pL sz es->
   (z0=false->m=none)->(z0=true->m=some (h.getD es.length)/\h≠none)->av=(if z0 then .full ((es.take (h.getD es.length).toNat).drop (l.getD 0).toNat)else .sl ((es.take (h.getD es.length).toNat).drop (l.getD 0).toNat))->mT P o a w W μ s.mem av s.mem:=by
  intro es z0 a0 x1 F Z h3 o0 hf0 y1 b0;have z1:∃e,P.underlying T=some (.slice e)/\szIs P e sz=true:=by
   unfold BO at hT;split at hT
   .rename_i e M;exact⟨e,M,hT⟩
   .rename_i M;obtain⟨b,hb⟩:=r0.2 M;exact absurd hb (x1 b)
   .cases hT
  obtain⟨e,M,hz⟩:=z1;obtain⟨ad,H,hv,s0,g0⟩:∃ad H,a.eval x=.slice ad es.length H/\es.length<=H/\∀l h c:Nat,l<=h->h<=es.length->h<=c->RepC w W (.slice (if c=l then ad else ad.map (·.add (l*sz))) (h-l) (c-l)) (.sl ((es.take h).drop l)):=by
   rcases a0.open_sl with⟨rfl,ad,H,hv⟩|⟨b,c1,H,u1,us,hv,hb,hlt,hn,s0,hf,hc⟩
   .refine⟨ad,H,hv,fS _,λ l h c F Z h3=>?_⟩;have:h=0:=by simpa using Z
    subst this;have:l=0:=om
    subst this;simp only[hJ,List.take_nil,List.drop_nil];exact .sl0 _ _
   .have p1:u1=sz:=by
     have h0:es[0]? =some es[0]:=by simp
     rw[<-hf.hs _ _ h0];exact o0 _ (cU h0)
    subst p1;exact⟨_,H,hv,s0,λ l h c F Z h3=>Y2 hb hlt F Z h3 hf hc s0⟩
  have V:lo'=none/\(l.getD 0).toNat=0\/∃k,lo'=some (.int k ((l.getD 0).toNat:Int))/\(l.getD 0).toNat<=(h.getD es.length).toNat:=by
   rcases hl with⟨h4,rfl⟩|⟨k,n,h4,rfl⟩
   .exact .inl ⟨h4,rfl⟩
   .refine .inr ⟨k,?_,by simp at*;omega⟩;simp at F;simp[h4];omega
  cases z0 with
  |false=>
   have f0:=hf0 rfl;have U:mx'=none:=by
    rcases hm with⟨h4,_⟩|⟨k,n,_,L⟩
    .exact h4
    .rw[f0]at L;cases L
   have p0:K=none/\(h.getD es.length).toNat=es.length\/∃k,K=some (.int k ((h.getD es.length).toNat:Int))/\(h.getD es.length).toNat<=H:=by
    rcases hh with⟨h4,rfl⟩|⟨k,n,h4,rfl⟩
    .exact .inl ⟨h4,by simp⟩
    .refine .inr ⟨k,?_,by simp at*;omega⟩;simp at Z F;have:0<=n:=om
     simp[h4];omega
   have O:=BN (P:=P) (w:=w) true es.length H (l.getD 0).toNat (h.getD es.length).toNat H lo' K mx' (.inl ⟨U,rfl⟩) p0 V;refine Y _ (by rw[hv];exact DU M hz ad _ _ _ _ _ _ _ _ O) ?_;rw[b0];exact rD (g0 _ _ _ om om om)
  |true=>
   obtain⟨f0,q1⟩:=y1 rfl;obtain⟨kh,nh,q0,r1⟩:∃k n,K=some (.int k n)/\h=some n:=by
    rcases hh with⟨_,L⟩|h4
    .exact absurd L q1
    .exact h4
   subst r1;simp only[Xm]at*;have l0:0<=nh:=om
   have U:∃k,mx'=some (.int k (nh.toNat:Int)):=by
    rcases hm with⟨_,L⟩|⟨k,n,h4,L⟩
    .rw[f0]at L;cases L
    .rw[f0]at L;cases L;exact⟨k,by simp[h4];omega⟩
   obtain⟨km,U⟩:=U;have O:=BN (P:=P) (w:=w) true es.length H (l.getD 0).toNat nh.toNat nh.toNat lo' K mx' (.inr ⟨km,U,by simp[q0],by omega⟩) (.inr ⟨kh,by simp[q0];omega,dC _⟩) V;refine Y _ (by rw[hv];exact DU M hz ad _ _ _ _ _ _ _ _ O) ?_;rw[b0];exact rD (.full _ _ _ (g0 _ _ _ om om (dC _)))
 unfold sB at he;split at he
 .cases he;obtain⟨F,Z,h3,h4⟩:=B;exact x0 _ false hx (by simp) F Z h3 h4 (λ _=>rfl) (by simp) rfl
 .cases he;obtain⟨F,Z,h3,h4⟩:=B;exact x0 _ false (RepC.of_full hx).1 (by simp) F Z h3 h4 (λ _=>rfl) (by simp) rfl
 .rename_i y s1 n;split at he
  .rename_i r hr;cases he;obtain⟨F,Z,h3,h4⟩:=B;have U:mx'=none:=by
    rcases hm with⟨L,_⟩|⟨k,q,_,h6⟩
    .exact L
    .cases h6
   obtain⟨e,M,hz⟩:∃e,P.underlying T=some (.slice e)/\szIs P e sz=true:=by
    unfold BO at hT;split at hT
    .rename_i e M;exact⟨e,M,hT⟩
    .rename_i M;obtain⟨b,hb⟩:=r0.2 M;cases hb
    .cases hT
   have V:∀hh:Nat,(l.getD 0).toNat<=hh->(lo'=none/\(l.getD 0).toNat=0\/∃k,lo'=some (.int k ((l.getD 0).toNat:Int))/\(l.getD 0).toNat<=hh):=by
    intro p0 t1;rcases hl with⟨h4,rfl⟩|⟨k,n,h4,rfl⟩
    .exact .inl ⟨h4,rfl⟩
    .refine .inr ⟨k,?_,t1⟩;simp at F;simp[h4];omega
   have p0:∀H,n<=H->(K=none/\(h.getD n).toNat=n\/∃k,K=some (.int k ((h.getD n).toNat:Int))/\(h.getD n).toNat<=H):=by
    intro H s0;rcases hh with⟨h4,rfl⟩|⟨k,q,h4,rfl⟩
    .exact .inl ⟨h4,by simp⟩
    .refine .inr ⟨k,?_,by simp at*;omega⟩;simp at Z F;have:0<=q:=om
     simp[h4];omega
   have t0:=hs.mem y;rw[hr]at t0;rcases hs.own hx hr with⟨rfl,ad,hv⟩|⟨k,H,L,h6,h7,h8,h9,u0⟩
   .have O:=BN (P:=P) (w:=w) true 0 0 (l.getD 0).toNat (h.getD (0:Nat)).toNat 0 lo' K mx' (.inl ⟨U,rfl⟩) (by simpa using p0 0 (dC _)) (V _ (by simp at*;omega));refine Y _ (by rw[hv];exact DU M hz ad _ _ _ _ _ _ _ _ O) ?_;have e1:(h.getD (0:Nat)).toNat-(l.getD 0).toNat=0:=by simp at*;omega
    have e2:0-(l.getD 0).toNat=0:=om
    rw[e1,e2];refine(show RepK w W μ _ (.own y _ 0)from⟨rfl,?_⟩);rcases t0 with⟨y0,_⟩|⟨k,y0,_⟩
    .rw[y0];exact⟨rfl,_,rfl⟩
    .have m0:0<k.sz:=by
      obtain⟨_,c0⟩:RepK w W μ _ (.own y _ _):=hx;rw[y0]at c0;exact c0.1
     rw[y0];exact⟨m0,.inl ⟨rfl,_,rfl⟩⟩
   .have O:=BN (P:=P) (w:=w) true n H (l.getD 0).toNat (h.getD n).toNat H lo' K mx' (.inl ⟨U,rfl⟩) (p0 H h8) (V _ om);refine Y _ (by rw[h6];exact DU M hz _ _ _ _ _ _ _ _ _ O) ?_;refine(show RepK w W μ _ (.own y _ _)from⟨rfl,?_⟩);rw[L];refine⟨u0.pos,?_⟩;have d0:k.sz=sz:=u0.2.1.trans h4
    by_cases e0:H=(l.getD 0).toNat
    .left;rw[cA e0];have e1:(h.getD n).toNat-(l.getD 0).toNat=0:=om
     have e2:H-(l.getD 0).toNat=0:=om
     rw[e1,e2];exact⟨rfl,_,rfl⟩
    .right;refine⟨H-(l.getD 0).toNat,?_,?_,by omega,by omega⟩
     .rw[bX e0];simp only[xm,Addr.add_lit,d0,eD]
     .refine dG (dR _ ?_) h7;omega
  .cases he
 .rename_i b;cases he;obtain⟨F,Z,h3⟩:=B;have M:P.underlying T=some .string:=r0.1 ⟨b,rfl⟩;have U:mx'=none:=by
   rcases hm with⟨L,_⟩|⟨k,q,_,h6⟩
   .exact L
   .cases h6
  have V:lo'=none/\(l.getD 0).toNat=0\/∃k,lo'=some (.int k ((l.getD 0).toNat:Int))/\(l.getD 0).toNat<=(h.getD b.size).toNat:=by
   rcases hl with⟨h4,rfl⟩|⟨k,n,h4,rfl⟩
   .exact .inl ⟨h4,rfl⟩
   .refine .inr ⟨k,?_,by simp at*;omega⟩;simp at F;simp[h4];omega
  have p0:K=none/\(h.getD b.size).toNat=b.size\/∃k,K=some (.int k ((h.getD b.size).toNat:Int))/\(h.getD b.size).toNat<=b.size:=by
   rcases hh with⟨h4,rfl⟩|⟨k,q,h4,rfl⟩
   .exact .inl ⟨h4,by simp⟩
   .refine .inr ⟨k,?_,by simp at*;omega⟩;simp at Z F;have:0<=q:=om
    simp[h4];omega
  have O:=BN (P:=P) (w:=w) false b.size b.size (l.getD 0).toNat (h.getD b.size).toNat b.size lo' K none (.inl ⟨rfl,rfl⟩) p0 V;rw[U]at Y;rw[hx.str]at Y;exact Y _ (Y1 M b _ _ _ _ _ O) (rD (.str _))
 .rename_i es mm;split at he
  .rename_i hq;cases he;obtain⟨F,Z,h3,h4,L⟩:=B;exact x0 _ true hx (by simp) F Z h3 L (by simp) (λ _=>⟨by rw[<-h4];rfl,by simp⟩) rfl
  .cases he
 .rename_i es mm;split at he
  .rename_i hq;cases he;obtain⟨F,Z,h3,h4,L⟩:=B;exact x0 _ true (RepC.of_full hx).1 (by simp) F Z h3 L (by simp) (λ _=>⟨by rw[<-h4];rfl,by simp⟩) rfl
  .cases he
 .rename_i y s1 n mm;split at he
  .rename_i hq r hr;cases he;obtain⟨F,Z,h3,h4,L⟩:=B;obtain⟨e,M,hz⟩:∃e,P.underlying T=some (.slice e)/\szIs P e sz=true:=by
    unfold BO at hT;split at hT
    .rename_i e M;exact⟨e,M,hT⟩
    .rename_i M;obtain⟨b,hb⟩:=r0.2 M;cases hb
    .cases hT
   have l0:0<=hq:=om
   obtain⟨kh,q0⟩:∃k,K=some (.int k (hq.toNat:Int)):=by
    rcases hh with⟨_,h6⟩|⟨k,n',h6,h7⟩
    .cases h6
    .cases h7;exact⟨k,by rw[h6,iR l0]⟩
   obtain⟨km,U⟩:∃k,mx'=some (.int k (hq.toNat:Int)):=by
    rcases hm with⟨_,h6⟩|⟨k,n',h6,h7⟩
    .cases h6
    .cases h7;exact⟨k,by rw[h6,<-h4,iR l0]⟩
   have V:lo'=none/\(l.getD 0).toNat=0\/∃k,lo'=some (.int k ((l.getD 0).toNat:Int))/\(l.getD 0).toNat<=hq.toNat:=by
    rcases hl with⟨h6,rfl⟩|⟨k,n',h6,rfl⟩
    .exact .inl ⟨h6,by simp⟩
    .refine .inr ⟨k,?_,by simp at*;omega⟩;simp at F;simp[h6];omega
   have t0:=hs.mem y;rw[hr]at t0;rcases hs.own hx hr with⟨rfl,ad,hv⟩|⟨k,H,h6,h7,h8,h9,d1,u0⟩
   .have O:=BN (P:=P) (w:=w) true 0 0 (l.getD 0).toNat hq.toNat hq.toNat lo' K mx' (.inr ⟨km,U,by simp[q0],by omega⟩) (.inr ⟨kh,q0,dC _⟩) V;refine Y _ (by rw[hv];exact DU M hz ad _ _ _ _ _ _ _ _ O) ?_;have e2:hq.toNat-(l.getD 0).toNat=0:=om
    rw[e2];have e3:(l.getD 0).toNat=0:=om
    have e4:hq.toNat=0:=om
    rw[e3,e4];refine(show RepK w W μ _ (.own y _ 0)from⟨rfl,?_⟩);rcases t0 with⟨y0,_⟩|⟨k,y0,_⟩
    .rw[y0];exact⟨rfl,_,rfl⟩
    .have m0:0<k.sz:=by
      obtain⟨_,c0⟩:RepK w W μ _ (.own y _ _):=hx;rw[y0]at c0;exact c0.1
     rw[y0];exact⟨m0,.inl ⟨rfl,_,rfl⟩⟩
   .have O:=BN (P:=P) (w:=w) true n H (l.getD 0).toNat hq.toNat hq.toNat lo' K mx' (.inr ⟨km,U,by simp[q0],by omega⟩) (.inr ⟨kh,q0,dC _⟩) V;refine Y _ (by rw[h7];exact DU M hz _ _ _ _ _ _ _ _ _ O) ?_;refine(show RepK w W μ _ (.own y _ _)from⟨rfl,?_⟩);rw[h6];refine⟨u0.pos,?_⟩;have d0:k.sz=sz:=u0.2.1.trans L
    by_cases e0:hq.toNat=(l.getD 0).toNat
    .left;have e1:hq.toNat-(l.getD 0).toNat=0:=om
     rw[cA e0,e1];exact⟨rfl,_,rfl⟩
    .right;refine⟨hq.toNat-(l.getD 0).toNat,?_,?_,dC _,by omega⟩
     .rw[bX e0];simp only[xm,Addr.add_lit,d0,eD]
     .refine dG (dR _ ?_) h8;omega
  .cases he
 .cases he
end
section
variable {P:Program} {o:Oper} {a:Act} {E:Env} {s:S} {w:World} {W:Nat→Prop} {μ:Nat→Loc}
def BP(w:World)(H:Obj):Keeps (λ _=>False) w (w.alloc H):=
 ⟨rfl,rfl,rfl,dC _,by simp,λ b hb _=>heap_alloc_old w H hb⟩
def GM(w:World)(H:Obj):Keeps (λ _=>False) w (w.drew.alloc H):=
 ⟨rfl,rfl,rfl,kQ _,by simp,λ b hb _=>heap_alloc_old w.drew H hb⟩
def Nb{v:Value}{x lo n:Nat}(h:RepK w W μ v (.own x lo n)):Rep w W μ v (.own x lo n):=h
def Y3(H:SatW E s a w W μ){x:Operand}{sz:Nat}{z:List A}{id:Nat}(ho:o.op=.move x\/o.op=.assign x)(K:x=.const (.slice none 0 0))(O:s.mem id=.fresh)(U:0<sz):
  mT P o a w W μ s.mem (.own id 0 0) (setM s.mem [(id,.row ⟨false,sz,z,[]⟩)]):=by
 refine⟨_,.slice none 0 0,w,W,_,?_,.inl rfl,?_,Step.newEmpty H.mem H.inj H.wlt O U rfl (Keeps.refl _ w)⟩
 .rcases ho with ho|ho<;>simp[execOp,ho,K,Act.eval]
 .refine Nb ⟨rfl,?_⟩;simp
def Y4(O:SatW E s a w W μ){x:Operand}{T:TypeId}{n:Nat}{H:A}{id:Nat}(ho:o.op=.box T x)(L:Rep w W μ (a.eval x) H)(U:s.mem id=.fresh)(V:H.isV=true)(B:0<n)(Z:H.cells.length=n):
  mT P o a w W μ s.mem (.ptr id 0 0) (setM s.mem [(id,.row ⟨false,n,H.cells,[H.cells]⟩)]):=by
 obtain⟨us,F,K,M⟩:=L.toCells V;subst Z;have Y:=Step.new (w':=w.alloc (.cells us.toArray T)) O.mem O.inj O.wlt U (r:=⟨false,H.cells.length,H.cells,[H.cells]⟩) (us:=us) (rest:=[]) (e:=T) B (BP _ _) (Flat.one K M) (by simpa using heap_alloc_new w _);refine⟨_,.pointer (some ⟨w.heap.size,0,none⟩),_,_,_,?_,.inl rfl,?_,Y⟩
 .simp[execOp,ho,Instr.box,newVar,newRow,newObj,Sem.run,F]
 .have:=GL (w:=w.alloc (.cells us.toArray T)) (W:=λ b=>W b\/b=w.heap.size) (μ:=λ x=>if x=id then Loc.at_ ⟨w.heap.size,H.cells.length,us.length+([]:List Value).length⟩else μ x) (y:=id) (k:=⟨w.heap.size,H.cells.length,us.length+([]:List Value).length⟩) (by simp) B 0 0
  simpa using this
def Aj(P:Program)(T:TypeId)(z:List A):Bool:=match P.info? T with|some i=>(match i.zero with|some v=>zY v.cells.toList z|none=>false)|none=>false
def JC{T:TypeId}{z:List A}(h:Aj P T z=true):∃v,(∀w,(zeroValue T).run P w=.ok v w)/\(∃i,P.info? T=some i/\i.zero=some v)/\v.cells.toList.length=z.length/\∀(w:World) (W:Nat->Prop) (i:Nat) (u:Value) (b:A),v.cells.toList[i]? =some u->z[i]? =some b->RepC w W u b:=by
 unfold Aj at h;split at h
 .rename_i i K;split at h
  .rename_i v L;refine⟨v,λ w=>by simp[zeroValue,typeInfo,K,L],⟨i,K,L⟩,(DS (w:=default) (W:=λ _=>False) h).1,λ w W i u b H O=>(DS h).2 i u b H O⟩
  .cases h
 .cases h
def Y5(H:SatW E s a w W μ){T:TypeId}{z:List A}{id:Nat}(ho:o.op=.alloc T)(B:Aj P T z=true)(O:s.mem id=.fresh)(Y:0<z.length):
  mT P o a w W μ s.mem (.ptr id 0 0) (setM s.mem [(id,.row ⟨false,z.length,z,[z]⟩)]):=by
 obtain⟨v,K,_,L,F⟩:=JC B;have U:=Step.new (w':=w.alloc (.cells v.cells T)) H.mem H.inj H.wlt O (r:=⟨false,z.length,z,[z]⟩) (us:=v.cells.toList) (rest:=[]) (e:=T) Y (BP _ _)
  (Flat.one L λ i u b M V=>nV (F w W i u b M V)) (by simpa using heap_alloc_new w _)
 refine⟨_,.pointer (some ⟨w.heap.size,0,none⟩),_,_,_,?_,.inl rfl,?_,U⟩
 .simp[execOp,ho,Instr.alloc,K,newVar,newRow,newObj,Sem.run]
 .have:=GL (w:=w.alloc (.cells v.cells T)) (W:=λ b=>W b\/b=w.heap.size) (μ:=λ x=>if x=id then Loc.at_ ⟨w.heap.size,z.length,v.cells.toList.length+([]:List Value).length⟩else μ x) (y:=id) (k:=⟨w.heap.size,z.length,v.cells.toList.length+([]:List Value).length⟩) (by simp) Y 0 0
  simpa using this
def Y6{T:TypeId}{n:Nat}(Y:szIs P T n=true){g off:Nat}{us rest vs:List Value}{e:TypeId}{v:Value}(K:v.cells=vs.toArray)(B:vs.length=n)(hg:w.heap[g]? =some (.cells (us++rest).toArray e (0,0)))
  (U:off+vs.length<=us.length) (F:∀u∈vs,u.oneCell'=true):
  (Instr.storeAt T (.pointer (some ⟨g,off,none⟩)) v).run P w=.ok () (w.setRow g ((us.take off++vs++us.drop (off+vs.length))++rest).toArray):=by
 have H:=run_storeCells_at P g off e vs 0 (us++rest).toArray w hg (by simp;omega) F;simp only[Nat.add_zero]at H;have O:¬vs.toArray.size≠n:=by simpa using B
 simp only[Instr.storeAt,Instr.sureAddr,storeVar,qc,Qc,Oc,zZ Y,K,O,cI,H];congr 2;have M:(us++rest).take off=us.take off:=fI om;have L:(us++rest).drop (off+vs.length)=us.drop (off+vs.length)++rest:=fJ om;simp[M,L]
def JD(w:World)(g:Nat)(c:Array Value):Keeps (λ b=>b=g) w (w.setRow g c):=
 ⟨rfl,rfl,rfl,dC _,by simp[World.setRow],λ b _ hb=>setRow_other w g b c hb⟩
def Y7(us vs:List Value)(i j sz n:Nat)(hi:(i+1)*sz<=us.length)(F:j+n<=sz)(H:vs.length=n):
  us.take (i*sz)++(((us.drop (i*sz)).take sz).take j++vs++((us.drop (i*sz)).take sz).drop (j+vs.length))++us.drop ((i+1)*sz)=us.take (i*sz+j)++vs++us.drop (i*sz+j+vs.length):=by
 subst H;rw[eD,Nat.one_mul]at hi⊢;generalize i*sz=p at*;have O:us.take (p+j)=us.take p++((us.drop p).take sz).take j:=by rw[List.take_add,lH,gK om]
 have U:us.drop (p+j+vs.length)=((us.drop p).take sz).drop (j+vs.length)++us.drop (p+sz):=by
  have Y:us.drop p=(us.drop p).take sz++us.drop (p+sz):=by rw[<-eV,eO]
  have B:us.drop (p+j+vs.length)=(us.drop p).drop (j+vs.length):=by rw[eV,fX]
  rw[B]
  conv=>lhs;rw[Y]
  rw[fJ];simp only[dD,dS];omega
 rw[O,U];simp only[cE]
def Y8{id:Nat}(V:SatW E s a w W μ){x y:Operand}{T:TypeId}{n:Nat}{ax ay:A}{ef:Ef}(ho:o.op=.store T x y)(hT:szIs P T n=true)(hx:Rep w W μ (a.eval x) ax)(hy:Rep w W μ (a.eval y) ay)
  (L:ev id s.mem (.store n) [ax,ay]=some ef) (h0:ef.obl):mT P o a w W μ s.mem ef.v (setM s.mem ef.mw):=by
 cases ax<;>simp only[ev]at L<;>try(cases L;done)
 rename_i p i j;split at L
 .rename_i r hr;cases L;obtain⟨q0,hv,hi,hj,hn⟩:=h0;obtain⟨k,hk,hp,x0⟩:=V.ptr hx hr;obtain⟨us,r0,K,U⟩:=hy.toCells hv;obtain⟨_,y0,c0,H,rest,e,O,htot,Z⟩:=x0;have hc:r.es[i]? =some (r.es.getD i r.z):=by simp[hi]
  have z0:=Z.hs i _ hc;have s0:=Z.split hc;have Y:(i+1)*r.sz<=H.length:=by rw[Z.hl];exact dR _ hi
  have u0:∀u∈us,u.oneCell'=true:=λ u hu=>by
   obtain⟨q,hq⟩:=jC hu;have t0:q<ay.cells.length:=by rw[<-K];exact(cJ.1 hq).1
   exact(U q u _ hq (cF t0)).oneCell
  have B:=Flat.upd (R:=RepK w W μ) (c:=r.es.getD i r.z) (z0▸s0) K U j om;rw[z0]at B;have F:=Z.set i hi B;have M:i*r.sz+j+us.length<=H.length:=by rw[eD]at Y;omega
  have p0:=Y6 (w:=w) hT (g:=k.b) (off:=i*r.sz+j) r0 om O M u0;rw[Y7 H us i j r.sz us.length Y om rfl]at F;refine⟨.skip,undef,w.setRow k.b ((H.take (i*r.sz+j)++us++H.drop (i*r.sz+j+us.length))++rest).toArray,W,μ,?_,.inr ⟨rfl,rfl⟩,trivial,Step.write (rest:=rest) V.mem V.inj V.wlt hk hr q0 (r':=⟨r.ro,r.sz,r.z,r.es.set i (upd (r.es.getD i r.z) j ay.cells)⟩) rfl (JD _ _ _) F (setRow_heap w k.b _ _ e _ O) ?_⟩
  .simp only[execOp,ho,hp,y0,qc,p0,Oc,Qc]
  .simp only[cC,dD,dS];omega
 .cases L
end
section
variable {P:Program} {o:Oper} {a:Act} {E:Env} {s:S} {w:World} {W:Nat→Prop} {μ:Nat→Loc}
def yA(P:Program)(w:World)(sz m:Nat)(x:Value)(news:List Value):Prop:=
 ∀H:World,H.heap=w.heap->(Builtin.lenOf x).run P H=.ok m H/\(∀n,n<=m->(Builtin.firstCells sz n x).run P H=.ok (news.take (n*sz)).toArray H)
def BQ{ad:Option Addr}{m c sz:Nat}{news:List Value}(K:news.length=m*sz)(U:∀b,ad=some b->∀(j:Nat) (u:Value),news[j]? =some u->w.cell? (b.add j)=some u)(Y:ad=none->news=[]):
  yA P w sz m (.slice ad m c) news:=by
 intro B L;refine⟨rfl,λ n O=>?_⟩;cases ad with
 |none=>simp[Builtin.firstCells,Y rfl]
 |some b=>
  refine run_firstCells_some B sz n b m c (news.take (n*sz)) ?_ λ j v H=>?_
  .rw[dD,K,gK (dR _ O)]
  .rw[eA]at H;split at H
   .have:=U b rfl j v H;rw[<-this];simp[World.cell?,L]
   .cases H
def GN(hs:SatW E s a w W μ){v:Value}{ax:A}{new:List (List A)}{sz:Nat}(hx:Rep w W μ v ax)(F:sT s.mem ax=some new)(t0:uI s.mem ax)(V:pL sz new):
  ∃O,yA P w sz new.length v O/\Flat (RepK w W μ) sz O new:=by
 have Y:∀es,RepC w W v (.sl es)->pL sz es->∃O,yA P w sz es.length v O/\Flat (RepK w W μ) sz O es:=λ es c0 p0=>by
  rcases c0.open_sl with⟨rfl,ad,q0,Z⟩|⟨b,m0,q0,d0,us,Z,hb,hlt,hn,f0,hf,M⟩
  .exact⟨[],by rw[Z];exact BQ (by simp) (by simp) (by simp),Flat.nil _ _⟩
  .have hsz:d0=sz:=by
    have h0:es[0]? =some es[0]:=by simp
    rw[<-hf.hs _ _ h0];exact p0 _ (cU h0)
   subst hsz;refine⟨us,?_,hf.mono λ u a hr=>nV hr⟩;rw[Z];exact BQ hf.hl (λ ad x0 j u L=>by cases x0;rw[Addr.add_lit];exact M j u L) (by simp)
 unfold sT at F;split at F
 .cases F;exact Y _ hx V
 .cases F;exact Y _ (RepC.of_full hx).1 V
 .rename_i y lo n;split at F
  .rename_i r hr;cases F;rcases hs.own hx hr with⟨rfl,ad,Z⟩|⟨k,q0,h5,h6,h7,h8,h9,r0⟩
   .have:(r.es.drop lo).take 0=[]:=by simp
    rw[this];exact⟨[],by rw[Z];exact BQ (by simp) (by simp) (by simp),Flat.nil _ _⟩
   .obtain⟨_,s0,g0,j0,l0,e,y0,htot,hf⟩:=r0;have o0:lo+n<=r.es.length:=by simpa only[uI,hr]using t0
    have K:((r.es.drop lo).take n).length=n:=by simp;omega
    have z0:=(hf.drop lo).take n;have hsz:(r.es.drop lo).take n=[]\/r.sz=sz:=by
     by_cases U:(r.es.drop lo).take n=[]
     .exact .inl U
     .right;have h0:((r.es.drop lo).take n)[0]? =some (((r.es.drop lo).take n)[0]'(gZ.2 U)):=cF _;rw[<-z0.hs _ _ h0];exact V _ (cU h0)
    rcases hsz with U|hsz
    .have e0:n=0:=by rw[U]at K;simpa using K.symm
     rw[U,h6,e0];exact⟨[],BQ (by simp) (by simp) (by simp),Flat.nil _ _⟩
    .subst hsz;refine⟨_,?_,z0⟩;rw[h6,K];refine BQ (by rw[z0.hl,K]) (λ ad x0 j u L=>?_) (by simp);cases x0;rw[Addr.add_lit];rw[eA]at L;split at L
     .rw[eG]at L;simp only[World.cell?,y0,s0,oc,bZ,cI,fO];rw[dX (cJ.1 L).1,L]
     .cases L
  .cases F
 .rename_i b;cases F;have u0:b.toList=b.data.toList:=ByteArray.toList_eq b;have Z:=hx.str;subst Z;refine⟨b.toList.map λ c=>Value.int .u8 c.toNat,?_,?_⟩
  .intro w1 hw;refine⟨?_,λ n hn=>?_⟩
   .simp[Builtin.lenOf,u0]
   .simp only[Builtin.firstCells,Qc,dK]at hn⊢;congr 1;apply Array.ext'
    by_cases H:b.toList=[]
    .have:b.data=#[]:=by rw[u0]at H;exact Array.toList_eq_nil_iff.1 H
     simp[H,this]
    .have B:sz=1:=by
      have:[A.int .u8 (b.toList.head H).toNat]∈b.toList.map (λ c=>[A.int .u8 c.toNat]):=cR.2 ⟨_,List.head_mem H,rfl⟩;exact(V _ this).symm
     subst B;simp[u0]
  .refine⟨?_,λ i c M=>V c (cU M),λ i c j d M hd=>?_⟩
   .by_cases H:b.toList=[]
    .simp[H]
    .have B:sz=1:=by
      have:[A.int .u8 (b.toList.head H).toNat]∈b.toList.map (λ c=>[A.int .u8 c.toNat]):=cR.2 ⟨_,List.head_mem H,rfl⟩;exact(V _ this).symm
     simp[B]
   .rw[cV]at M;cases hb:b.toList[i]? with
    |none=>simp[hb]at M
    |some q=>
     simp[hb]at M;subst M;have B:sz=1:=(V _ (cR.2 ⟨q,cU hb,rfl⟩)).symm;subst B;cases j with
     |zero=>simp at hd;subst hd;exact⟨_,by simp[hb],show RepC w W _ _ from .int _ _⟩
     |succ j=>simp at hd
 .cases F
def Ak(P:Program)(T U:TypeId)(sz H:Nat):Bool:=
 match P.underlying T with
 |some (.slice e)=>(match P.info? e with
  |some i=>i.size==sz&&i.bytes==H&&(match i.zero with|some z=>z.cells.size==sz|none=>false)
  |none=>false)&&(match P.underlying U with|some (.slice _)=>true|some .string=>true|_=>false)
 |_=>false
def Nc{T U:TypeId}{sz H:Nat}(h:Ak P T U sz H=true):∃e i z,P.underlying T=some (.slice e)/\P.info? e=some i/\i.size=sz/\i.bytes=H/\i.zero=some z/\z.cells.size=sz/\
  ((∃F,P.underlying U=some (.slice F))\/P.underlying U=some .string):=by
 unfold Ak at h;split at h
 .rename_i e M;simp only[bY]at h;obtain⟨B,K⟩:=h;split at B
  .rename_i i L;simp only[bY,dL]at B;obtain⟨⟨V,Z⟩,Y⟩:=B;split at Y
   .rename_i z hz;simp only[dL]at Y;split at K
    .rename_i F O;exact⟨e,i,z,M,L,V,Z,hz,Y,.inl ⟨F,O⟩⟩
    .rename_i O;exact⟨e,i,z,M,L,V,Z,hz,Y,.inr O⟩
    .cases K
   .cases Y
  .cases B
 .cases h
def Nd{T U e:TypeId}{i:TypeInfo}(K:P.underlying T=some (.slice e))(hU:(∃Y,P.underlying U=some (.slice Y))\/P.underlying U=some .string)(hi:P.info? e=some i)
  {ty:TypeId} {base:Option Addr} {sLen sCap m:Nat} {x:Value} {news:List Value} (V:yA P w i.size m x news) (Z:news.length=m*i.size) (H:sLen+m<=sCap)
  {w':World} (B:∀O,base=some O->(storeCells (O.add (sLen*i.size)) news).run P w=.ok () w') (F:base=none->w'=w):
  (Builtin.append_ #[T,U] ty #[.slice base sLen sCap,x]).run P w=.ok (.slice base (sLen+m) sCap) w':=by
 obtain⟨L,h2⟩:=V w rfl;have M:=h2 m (dC _);rw[<-Z,eU]at M;cases base with
 |none=>cases F rfl;rcases hU with⟨Y,hU⟩|hU<;>simp[Builtin.append_,run_underlying K,run_underlying hU,wR hi,L,H,M]
 |some O=>have:=B O rfl;rcases hU with⟨Y,hU⟩|hU<;>simp[Builtin.append_,run_underlying K,run_underlying hU,wR hi,L,H,M,this]
def JE{T U e:TypeId}{i:TypeInfo}{z:Value}(Z:P.underlying T=some (.slice e))(hU:(∃K,P.underlying U=some (.slice K))\/P.underlying U=some .string)(hi:P.info? e=some i)(hz:i.zero=some z)
  {ty:TypeId} {base:Option Addr} {sLen sCap m:Nat} {x:Value} {news olds:List Value} (L:yA P w i.size m x news) (hl:news.length=m*i.size) (u0:olds.length=sLen*i.size)
  (O:∀M:World,M.heap=w.heap->(Builtin.firstCells i.size sLen (.slice base sLen sCap)).run P M=.ok olds.toArray M)
  (H:sCap<sLen+m) (Y:sLen+m<=maxLen) (h0:(sLen+m)*i.bytes<=140737488355328):
  ∃c,sLen+m<=c/\c<=maxLen/\(Builtin.append_ #[T,U] ty #[.slice base sLen sCap,x]).run P w=.ok (.slice (some ⟨w.heap.size,0,none⟩) (sLen+m) c)
   (w.drew.alloc (.cells ((olds++news)++(Builtin.zeroCells z.cells (c-(sLen+m))).toList).toArray e)):=by
 have x0:=grownCap_ge w (sLen+m) sCap e;have y0:=grownCap_le_maxLen w (sLen+m) sCap e Y;refine⟨grownCap w (sLen+m) sCap e,x0,y0,?_⟩;obtain⟨h1,_⟩:=L w rfl;obtain⟨_,h2⟩:=L w.drew rfl;have V:=h2 m (dC _);rw[<-hl,eU]at V;have h4:=O w.drew rfl;have hn:¬(sLen+m<=sCap):=om
 have B:¬(9223372036854775807<((sLen:Int)+(m:Int))):=by simp only[maxLen]at Y;omega
 have z0:=growslice_fits H h0;have F:¬(281474976710656<Builtin.nextslicecap (sLen+m) sCap*i.bytes):=om
 rcases hU with⟨K,hU⟩|hU<;>simp[Builtin.append_,run_underlying Z,run_underlying hU,sizeOf,typeInfo,zeroValue,hi,hz,h1,hn,B,F,Question.forced,V,h4,newRow,grownCap]
 all_goals(congr 2;apply Array.ext';simp)
def BR{x lo n:Nat}{k:Blk}{cap:Nat}(K:μ x=.at_ k)(L:(lo+cap)*k.sz<=k.tot)(O:n<=cap)(U:lo+cap<=maxLen)(H:0<k.sz:=by first|assumption|omega|(simp only;omega)):Rep w W μ (.slice (some ⟨k.b,lo*k.sz,none⟩) n cap) (.own x lo n):=by refine Nb ⟨rfl,?_⟩;rw[K];exact⟨H,.inr ⟨cap,rfl,L,O,U⟩⟩
def Nf{x:Nat}{ad:Option Addr}(H:μ x=.empty)(lo:Nat):Rep w W μ (.slice ad 0 0) (.own x lo 0):=by refine Nb ⟨rfl,?_⟩;rw[H];exact⟨rfl,_,rfl⟩
def Q5(hm:rQ w W μ s.mem)(hi:∀x y k k',μ x=.at_ k->μ y=.at_ k'->k.b=k'.b->x=y)(K:∀b,W b->b<w.heap.size)
  {T U e:TypeId} {i:TypeInfo} {z:Value} {zz:List A} (V:P.underlying T=some (.slice e)) (Z:(∃e2,P.underlying U=some (.slice e2))\/P.underlying U=some .string) (H:P.info? e=some i) (hz:i.zero=some z) (x0:z.cells.size=i.size)
  (O:0<i.size) {id m:Nat} {ty:TypeId} {ad:Option Addr} {x:Value} {news:List Value} {new:List (List A)} (F:s.mem id=.fresh) (hx:yA P w i.size m x news) (y0:m=new.length) (L:Flat (RepK w W μ) i.size news new)
  (p0:m<=maxLen) (z0:m*i.bytes<=140737488355328):
  ∃v w' W' μ',(Builtin.append_ #[T,U] ty #[.slice ad 0 0,x]).run P w=.ok v w'/\Rep w' W' μ' v (.own id 0 m)/\Step s.mem (setM s.mem [(id,.row ⟨false,i.size,zz,new⟩)]) w w' W W' μ μ':=by
 subst y0
 by_cases h0:new.length=0
 .have hn:new=[]:=dA h0;subst hn;have B:news=[]:=dA (by simpa using L.hl);subst B;refine⟨.slice ad 0 0,w,W,_,?_,?_,Step.newEmpty hm hi K F O rfl (Keeps.refl _ w)⟩
  .exact Nd V Z H (m:=0) (sLen:=0) (sCap:=0) hx (by simp) (dC _) (λ b _=>by simp[storeCells]) (λ _=>rfl)
  .exact Nf (by simp) 0
 .obtain⟨c,M,q0,Y⟩:=JE (ty:=ty) (base:=ad) (sLen:=0) (sCap:=0) (olds:=[]) V Z H hz hx L.hl (by simp)
   (λ w1 hw=>by cases ad<;>simp[Builtin.firstCells,loadCells,loadCellsFrom]) om om (by simpa using z0)
  simp only[eC,jm]at Y M;have u0:=Step.new (w':=w.drew.alloc (.cells (news++(Builtin.zeroCells z.cells (c-new.length)).toList).toArray e)) hm hi K F (r:=⟨false,i.size,zz,new⟩) (us:=news) (rest:=(Builtin.zeroCells z.cells (c-new.length)).toList) (e:=e) O (GM _ _) L
   (by simpa using heap_alloc_new w.drew _)
  refine⟨_,_,_,_,Y,?_,u0⟩;have:=BR (w:=w.drew.alloc (.cells (news++(Builtin.zeroCells z.cells (c-new.length)).toList).toArray e)) (W:=λ b=>W b\/b=w.heap.size)
   (μ:=λ x=>if x=id then Loc.at_ ⟨w.heap.size,i.size,news.length+(Builtin.zeroCells z.cells (c-new.length)).toList.length⟩else μ x) (x:=id) (lo:=0) (n:=new.length) (cap:=c)
   (k:=⟨w.heap.size,i.size,news.length+(Builtin.zeroCells z.cells (c-new.length)).toList.length⟩) (by simp)
   (by simp only[Array.length_toList,size_zeroCells,x0,L.hl,eC];rw[<-eD];exact dR _ om) M om
  simpa using this
def Y9(hm:rQ w W μ s.mem)(hi:∀x y k k',μ x=.at_ k->μ y=.at_ k'->k.b=k'.b->x=y)(V:∀b,W b->b<w.heap.size)
  {T U e:TypeId} {i:TypeInfo} {z:Value} {zz:List A} (hT:P.underlying T=some (.slice e)) (hU:(∃e2,P.underlying U=some (.slice e2))\/P.underlying U=some .string) (H:P.info? e=some i) (hz:i.zero=some z) (B:z.cells.size=i.size)
  (O:0<i.size) {id:Nat} {ty:TypeId} {ad:Option Addr} {x:Value} {olds news:List Value} {es new:List (List A)} (F:s.mem id=.fresh) (hx:yA P w i.size new.length x news) (Z:Flat (RepK w W μ) i.size news new)
  (hb:yA P w i.size es.length (.slice ad es.length es.length) olds) (L:Flat (RepK w W μ) i.size olds es) (M:new≠[])
  (h0:es.length+new.length<=maxLen) (x0:(es.length+new.length)*i.bytes<=140737488355328):
  ∃v w' W' μ',(Builtin.append_ #[T,U] ty #[.slice ad es.length es.length,x]).run P w=.ok v w'/\Rep w' W' μ' v (.own id 0 (es.length+new.length))/\Step s.mem (setM s.mem [(id,.row ⟨false,i.size,zz,es++new⟩)]) w w' W W' μ μ':=by
 have h1:0<new.length:=gZ.2 M;have K:Flat (RepK w W μ) i.size (olds++news) (es++new):=L.append Z;obtain⟨c,y0,u0,Y⟩:=JE (ty:=ty) (base:=ad) (sLen:=es.length) (sCap:=es.length) (olds:=olds) hT hU H hz hx Z.hl L.hl
  (λ w1 hw=>by
   have:=(hb w1 hw).2 es.length (dC _);rwa [<-L.hl,eU]at this) om h0 x0
 have z0:=Step.new (w':=w.drew.alloc (.cells ((olds++news)++(Builtin.zeroCells z.cells (c-(es.length+new.length))).toList).toArray e)) hm hi V F (r:=⟨false,i.size,zz,es++new⟩) (us:=olds++news) (rest:=(Builtin.zeroCells z.cells (c-(es.length+new.length))).toList) (e:=e) O (GM _ _) K
  (by simpa using heap_alloc_new w.drew _)
 refine⟨_,_,_,_,Y,?_,z0⟩;have:=BR (w:=w.drew.alloc (.cells ((olds++news)++(Builtin.zeroCells z.cells (c-(es.length+new.length))).toList).toArray e)) (W:=λ b=>W b\/b=w.heap.size)
  (μ:=λ x=>if x=id then Loc.at_ ⟨w.heap.size,i.size,(olds++news).length+(Builtin.zeroCells z.cells (c-(es.length+new.length))).toList.length⟩else μ x) (x:=id) (lo:=0) (n:=es.length+new.length) (cap:=c)
  (k:=⟨w.heap.size,i.size,(olds++news).length+(Builtin.zeroCells z.cells (c-(es.length+new.length))).toList.length⟩) (by simp)
  (by simp only[Array.length_toList,size_zeroCells,B,K.hl,eC,cC];rw[<-eD];exact dR _ om) y0 om
 simpa using this
def Q6(Z:SatW E s a w W μ){T U e:TypeId}{i:TypeInfo}{z:Value}(hu:P.underlying T=some (.slice e))(hU:(∃e2,P.underlying U=some (.slice e2))\/P.underlying U=some .string)(F:P.info? e=some i)(hz:i.zero=some z)(x1:z.cells.size=i.size)
  {id K n:Nat} {ty:TypeId} {r:Row} {vx x:Value} {news:List Value} {new:List (List A)} (hx:Rep w W μ vx (.own K 0 n)) (g0:s.mem id=.fresh) (hr:s.mem K=.row r) (r1:r.ro=false) (y1:n<=r.es.length) (u0:r.sz=i.size)
  (p0:yA P w i.size new.length x news) (hf:Flat (RepK w W μ) i.size news new) (s1:n+new.length<=maxLen) (z1:(n+new.length)*i.bytes<=140737488355328):
  ∃v w' W' μ',(Builtin.append_ #[T,U] ty #[vx,x]).run P w=.ok v w'/\Rep w' W' μ' v (.own id 0 (n+new.length))/\Step s.mem (setM s.mem [(K,.dead),(id,.row ⟨false,i.size,r.z,r.es.take n++new⟩)]) w w' W W' μ μ':=by
 have t1:id≠K:=λ e=>by subst e;rw[g0]at hr;cases hr
 have O:=Step.kill (x:=K) Z.mem Z.inj Z.wlt;have d0:setM s.mem [(K,.dead)] id=.fresh:=by simp[setM,t1,g0]
 rcases Z.own hx hr with⟨y1,ad,hv⟩|⟨k,cap,h5,h6,h7,h8,h9,f0⟩
 .subst y1;have Y:0<i.size:=u0▸Z.posO hx hr;have c1:Flat (RepK w W (λ y=>if y=K then .dead else μ y)) i.size news new:=hf.mono λ u b l0=>l0.step O;obtain⟨v,w',W',μ',h1,h2,h3⟩:=Q5 (s:=⟨s.fr,setM s.mem [(K,.dead)]⟩) (zz:=r.z) (ty:=ty) (ad:=ad) O.mem O.inj O.wlt hu hU F hz x1 Y d0 p0 rfl c1 om (by simpa using z1);refine⟨v,w',W',μ',(by rw[hv];exact h1),(by simpa using h2),?_⟩;rw[lX,lP];exact O.trans h3
 .have d1:=f0;obtain⟨_,x0,Y,m0,q0,e0,c0,j0,u1⟩:=f0;rw[u0]at x0 Y u1;obtain⟨H,hus⟩:∃H,H=m0.take (n*i.size):=⟨_,rfl⟩;obtain⟨rest,o0⟩:∃rest,rest=m0.drop (n*i.size)++q0:=⟨_,rfl⟩;have z0:m0++q0=H++rest:=by rw[hus,o0,<-cE,eO]
  have M:w.heap[k.b]? =some (.cells (H++rest).toArray e0 (0,0)):=z0▸c0;have htot:H.length+rest.length=k.tot:=by rw[<-cC,<-z0,cC];exact j0
  obtain⟨B,r0⟩:∃B,B=r.es.take n:=⟨_,rfl⟩;have L:Flat (RepK w W μ) i.size H B:=by rw[hus,r0];exact u1.take n
  have hn:n=B.length:=by rw[r0,dD];omega
  rw[<-r0];rw[x0]at h7;simp only[eC,kH,x0]at h6 h7 h9;have V:Flat (RepK w W μ) i.size (H++news) (B++new):=L.append hf
  by_cases h0:n+new.length<=cap
  .have o1:news.length<=rest.length:=by
    have e1:=L.hl;have e2:=hf.hl;have e3:(n+new.length)*i.size<=cap*i.size:=dR _ h0;rw[eD]at e3;rw[hn]at e3;omega
   have hul:H.length=n*i.size:=by rw[L.hl,hn]
   have p1:∀u∈news,u.oneCell'=true:=λ u f1=>by
    obtain⟨q,hq⟩:=jC f1;have q1:=(cJ.1 hq).1;have g1:q/i.size<new.length:=by rw[hf.hl]at q1;exact(iG Y).2 q1
    have hc:=cF g1;have k1:=hf.hs _ _ hc;have hj:q% i.size<(new[q/i.size]).length:=by rw[k1];exact lC _ Y
    obtain⟨u',b0,l1⟩:=hf.ha _ _ _ _ hc (cF hj);rw[jV]at b0;rw[hq]at b0;cases b0;exact l1.oneCell
   have s0:=run_storeCells_at P k.b (n*i.size) e0 news 0 (H++rest).toArray w M (by simp;omega) p1;simp only[Nat.add_zero]at s0;have e1:(H++rest).take (n*i.size)=H:=by rw[<-hul];exact List.take_left
   have e2:(H++rest).drop (n*i.size+news.length)=rest.drop news.length:=by rw[<-hul,kW];simp
   rw[e1,e2]at s0;have t0:=Nd (ty:=ty) (base:=some ⟨k.b,0,none⟩) (sLen:=n) (sCap:=cap) hu hU F p0 hf.hl h0 (w':=w.setRow k.b ((H++news)++rest.drop news.length).toArray)
    (λ ad m1=>by cases m1;rw[Addr.add_lit,eC];exact s0) (by simp)
   refine⟨_,_,W,_,(by rw[h6];exact t0),?_,(Step.moved Z.mem Z.inj Z.wlt h5 hr r1 (id:=id) (r':=⟨false,i.size,r.z,B++new⟩) u0.symm g0 (JD _ _ _) V (setRow_heap w k.b _ _ e0 _ M) (by simp;omega))⟩;have:=BR (w:=w.setRow k.b ((H++news)++rest.drop news.length).toArray) (W:=W) (μ:=λ y=>if y=id then .at_ k else if y=K then .dead else μ y) (x:=id) (lo:=0) (n:=n+new.length) (k:=k) (cap:=cap) (by simp) (by rw[x0];simpa using h7) h0 om
   simpa using this
  .obtain⟨c,i1,b1,t0⟩:=JE (ty:=ty) (base:=some ⟨k.b,0,none⟩) (sLen:=n) (sCap:=cap) (olds:=H) hu hU F hz p0 hf.hl (by rw[L.hl,hn])
    (λ w1 hw=>run_firstCells_some w1 i.size n ⟨k.b,0,none⟩ n cap H (by rw[L.hl,hn]) λ j u hj=>by
     rw[Addr.add_lit,eC];simp only[World.cell?,hw,M,oc,bZ,cI,fO];rw[dX (cJ.1 hj).1,hj]) om s1 z1
   have a0:Flat (RepK w W (λ y=>if y=K then .dead else μ y)) i.size (H++news) (B++new):=V.mono λ u b l0=>l0.step O;have s0:=Step.new (w':=w.drew.alloc (.cells ((H++news)++(Builtin.zeroCells z.cells (c-(n+new.length))).toList).toArray e)) O.mem O.inj O.wlt d0 (r:=⟨false,i.size,r.z,B++new⟩) (us:=H++news) (rest:=(Builtin.zeroCells z.cells (c-(n+new.length))).toList) (e:=e) Y (GM _ _) a0
    (by simpa using heap_alloc_new w.drew _)
   refine⟨_,_,_,_,(by rw[h6];exact t0),?_,(O.trans s0)⟩;have:=BR (w:=w.drew.alloc (.cells ((H++news)++(Builtin.zeroCells z.cells (c-(n+new.length))).toList).toArray e)) (W:=λ b=>W b\/b=w.heap.size)
    (μ:=λ x=>if x=id then Loc.at_ ⟨w.heap.size,i.size,(H++news).length+(Builtin.zeroCells z.cells (c-(n+new.length))).toList.length⟩else if x=K then .dead else μ x) (x:=id) (lo:=0) (n:=n+new.length) (cap:=c)
    (k:=⟨w.heap.size,i.size,(H++news).length+(Builtin.zeroCells z.cells (c-(n+new.length))).toList.length⟩) (by simp)
    (by simp only[Array.length_toList,size_zeroCells,x1,V.hl,eC,cC,<-hn];rw[<-eD];exact dR _ om) i1 om
   simpa using this
def Za(F:SatW E s a w W μ){x y:Operand}{T U:TypeId}{sz bytes id:Nat}{zz:List A}{ax ay:A}{ef:Ef}(ho:o.op=.call {callee:=.builtin .append,args:=#[x,y],argTypes:=#[T,U]})(hT:Ak P T U sz bytes=true)
  (hx:Rep w W μ (a.eval x) ax) (hy:Rep w W μ (a.eval y) ay) (r0:s.mem id=.fresh) (M:ev id s.mem (.append sz bytes zz) [ax,ay]=some ef) (p0:ef.obl):mT P o a w W μ s.mem ef.v (setM s.mem ef.mw):=by
 obtain⟨e,i,z,hu,H,g0,x0,hz,s0,hU⟩:=Nc hT;subst g0;subst x0;have t0:∀v w' W' μ',(Builtin.append_ #[T,U] o.type #[a.eval x,a.eval y]).run P w=.ok v w'->Rep w' W' μ' v ef.v->Step s.mem (setM s.mem ef.mw) w w' W W' μ μ'->mT P o a w W μ s.mem ef.v (setM s.mem ef.mw):=λ v w' W' μ' V Z L=>
  ⟨.value v,v,w',W',μ',by simp[execOp,ho,resolve,invoke,builtin,V],.inl rfl,Z,L⟩
 simp only[ev]at M;cases K:sT s.mem ay with
 |none=>simp[K]at M
 |some new=>
  simp only[K,qm]at M;split at M
  .rename_i es;cases M;obtain⟨q0,l0,c0,d0,Y,z0,u0⟩:=p0;obtain⟨e0,O,hf⟩:=GN (P:=P) F hy K d0 Y;obtain⟨_,ad,hv⟩:=RepC.of_full (show RepC w W (a.eval x) (.full es)from hx)
   by_cases h0:es=[]
   .subst h0;obtain⟨v,w',W',μ',V,Z,L⟩:=Q5 (zz:=zz) (ty:=o.type) (ad:=ad) F.mem F.inj F.wlt hu hU H hz s0 q0 r0 O rfl hf (by simpa using u0) (by simpa using z0);exact t0 v w' W' μ' (by rw[hv];exact V) (by simpa using Z) (by simpa using L)
   .obtain⟨j0,B,hf0⟩:=GN (P:=P) F hx (new:=es) rfl trivial c0;rw[hv]at B;obtain⟨v,w',W',μ',V,Z,L⟩:=Y9 (zz:=zz) (ty:=o.type) (ad:=ad) F.mem F.inj F.wlt hu hU H hz s0 q0 r0 O hf B hf0 (l0.resolve_left h0) u0 z0;exact t0 v w' W' μ' (by rw[hv];exact V) Z L
  .rename_i y0 lo n;split at M
   .rename_i r hr;cases M;obtain⟨m0,rfl,hn,f0,d0,Y,z0,u0⟩:=p0;obtain⟨e0,O,hf⟩:=GN (P:=P) F hy K d0 Y;obtain⟨v,w',W',μ',V,Z,L⟩:=Q6 (ty:=o.type) F hu hU H hz s0 hx r0 hr m0 (Nat.le_of_eq hn) f0 O hf u0 z0;have e:r.es.take n=r.es:=by rw[hn,eU]
    rw[e]at L;exact t0 v w' W' μ' V Z L
   .cases M
  .cases M
def Zb(L:SatW E s a w W μ){x y:Operand}{T U:TypeId}{sz bytes id:Nat}{ax ay:A}{ef:Ef}(ho:o.op=.call {callee:=.builtin .append,args:=#[x,y],argTypes:=#[T,U]})(V:Ak P T U sz bytes=true)
  (Z:Rep w W μ (a.eval x) ax) (hy:Rep w W μ (a.eval y) ay) (x0:s.mem id=.fresh) (O:ev id s.mem (.appc sz bytes) [ax,ay]=some ef) (B:ef.obl):mT P o a w W μ s.mem ef.v (setM s.mem ef.mw):=by
 obtain⟨e,i,z,hu,Y,z0,H,hz,u0,hU⟩:=Nc V;subst z0;subst H;simp only[ev]at O;cases K:sT s.mem ay with
 |none=>simp[K]at O
 |some new=>
  simp only[K,qm]at O;split at O
  .rename_i y0 lo n;split at O
   .rename_i r hr;cases O;obtain⟨p0,rfl,hn,F,q0,M,r0,s0⟩:=B;obtain⟨t0,h0,hf⟩:=GN (P:=P) L hy K q0 M;obtain⟨v,w',W',μ',h1,h2,h3⟩:=Q6 (ty:=o.type) L hu hU Y hz u0 Z x0 hr p0 hn F h0 hf s0 r0;exact⟨.value v,v,w',W',μ',by simp[execOp,ho,resolve,invoke,builtin,h1],.inl rfl,h2,h3⟩
   .cases O
  .cases O
def Zc(L:SatW E s a w W μ){x y:Operand}{T U:TypeId}{sz H:Nat}{es:List (List A)}(ho:o.op=.call {callee:=.builtin .append,args:=#[x,y],argTypes:=#[T,U]})(hT:Ak P T U sz H=true)
  (hx:Rep w W μ (a.eval x) (.full [])) (hy:Rep w W μ (a.eval y) (.sl es)) (M:pL sz es) (u0:es.length*H<=140737488355328) (c0:es.length<=maxLen):mT P o a w W μ s.mem (.sl es) s.mem:=by
 obtain⟨e,i,z,Z,O,F,Y,hz,d0,hU⟩:=Nc hT;subst F;subst Y;obtain⟨_,ad,hv⟩:=RepC.of_full (show RepC w W (a.eval x) (.full [])from hx);have x0:∀v w',(Builtin.append_ #[T,U] o.type #[a.eval x,a.eval y]).run P w=.ok v w'->RepC w' W v (.sl es)->Keeps (λ _=>False) w w'->mT P o a w W μ s.mem (.sl es) s.mem:=λ v w' h1 h2 h3=>
  ⟨.value v,v,w',W,μ,by simp[execOp,ho,resolve,invoke,builtin,h1],.inl rfl,rD h2,Step.quiet h3 L.mem L.inj L.wlt⟩
 rcases(show RepC w W (a.eval y) (.sl es)from hy).open_sl with⟨rfl,e0,p0,K⟩|⟨b,off,p0,q0,us,K,hb,hlt,hn,t0,V,hc⟩
 .refine x0 (.slice ad 0 0) w ?_ (.sl0 _ _) (Keeps.refl _ w);rw[hv,K];exact Nd Z hU O (m:=0) (sLen:=0) (sCap:=0) (news:=[]) (BQ (by simp) (by simp) (by simp)) (by simp) (dC _) (λ b _=>by simp[storeCells]) (λ _=>rfl)
 .have F:q0=i.size:=by
   have h0:es[0]? =some es[0]:=by simp
   rw[<-V.hs _ _ h0];exact M _ (cU h0)
  subst F;have y0:yA P w i.size es.length (a.eval y) us:=by rw[K];exact BQ V.hl (λ ad r0 j u hj=>by cases r0;rw[Addr.add_lit];exact hc j u hj) (by simp)
  obtain⟨c,z0,f0,B⟩:=JE (ty:=o.type) (base:=ad) (sLen:=0) (sCap:=0) (olds:=[]) Z hU O hz y0 V.hl (by simp)
   (λ w1 hw=>by cases ad<;>simp[Builtin.firstCells,loadCells,loadCellsFrom]) om om (by simpa using u0)
  simp only[eC,jm]at B z0;have hk:=GM w (.cells (us++(Builtin.zeroCells z.cells (c-es.length)).toList).toArray e);have s0:Flat (RepC (w.drew.alloc (.cells (us++(Builtin.zeroCells z.cells (c-es.length)).toList).toArray e)) W) i.size us es:=V.mono λ u b hr=>hr.keep hk (λ _ _ _ h=>h) (λ _ _ h=>h);refine x0 _ _ (by rw[hv];exact B) (RepC.mk_sl (b:=w.heap.size) (off:=0) (λ h=>absurd (L.wlt _ h) (kV _)) (by simp) z0 s0 λ q u hq=>?_) hk;rw[eC,show w.heap.size=w.drew.heap.size from rfl,World.cell?_alloc_new];rw[fO,dX (cJ.1 hq).1,hq]
end
section
variable {P:Program} {o:Oper} {a:Act} {E:Env} {s:S} {w:World} {W:Nat→Prop} {μ:Nat→Loc}
def Cs(R:Value->A->Prop)(us:List Value)(H:List A):Prop:=us.length=H.length/\∀(i:Nat) (u:Value) (b:A),us[i]? =some u->H[i]? =some b->R u b
def Cs.upd{R:Value->A->Prop}{us vs:List Value}{c d:List A}(h:Cs R us c)(k:Cs R vs d)(j:Nat)(U:j+d.length<=c.length):Cs R (us.take j++vs++us.drop (j+vs.length)) (Ab.upd c j d):=by
 have O:=Flat.upd (R:=R) (c:=c) (Flat.one h.1 h.2) k.1 k.2 j U;have K:(Ab.upd c j d).length=c.length:=by simp[Ab.upd];omega
 refine⟨by rw[K];simpa using O.hl,λ i u b Y hb=>?_⟩;obtain⟨F,H,B⟩:=O.ha 0 _ i b rfl hb;simp only[kH,eC]at H;rw[Y]at H;cases H;exact B
def Q7(us:List Value):∀(off k:Nat) (H:Array Value),off+k+us.length<=H.size->
  (((us.zipIdx k).foldl (λ O q=>O.setIfInBounds (off+q.2) q.1) H)).toList=H.toList.take (off+k)++us++H.toList.drop (off+k+us.length):=by
 induction us with
 |nil=>intro off k H h;simp
 |cons u us U=>intro off k H h;simp only[List.zipIdx_cons,List.foldl_cons,ym]at h⊢;rw[U off (k+1) _ (by simp;omega)];rw[Array.toList_setIfInBounds];have:=list_seg_step H.toList (off+k) u us (by simp;omega);rw[show off+(k+1)=off+k+1 by omega];exact this
def BS(H:Nat->Option (Nat×Nat)):List (Nat×Operand)->List (Nat×Nat)->Bool
 |[],[]=>true
 |p::ps,q::qs=>H p.1==some q&&BS H ps qs
 |_,_=>false
def Ng(ρ:Operand->Value)(U:Nat->Option (Nat×Nat)):∀(O:List (Nat×Operand)) (ps:List (Nat×Nat)) (xs:List A) (H:Array Value) (z:List A),BS U O ps=true->O.length=xs.length->
  (∀(i:Nat) (p:Nat×Operand) (x:A),O[i]? =some p->xs[i]? =some x->Rep w W μ (ρ p.2) x)->GI z.length ps xs->Cs (RepK w W μ) H.toList z->
  ∃us:List Value,Instr.fill U H (O.map λ p=>(p.1,ρ p.2))=some us.toArray/\Cs (RepK w W μ) us (laid z ps xs)
 |[],[],xs,H,z,_,L,_,_,hc=>by have:xs=[]:=dA L.symm;subst this;exact⟨H.toList,by simp[Instr.fill],by simpa [laid]using hc⟩
 |p::O,q::ps,x::xs,H,z,K,L,hr,hok,hc=>by
  simp only[BS,bY,dL]at K;obtain⟨hv,V,z0,B⟩:=hok;obtain⟨us,hu,Z,M⟩:=(hr 0 p x rfl rfl).toCells hv;have u0:H.size=z.length:=by simpa using hc.1
  have hq:us.length=q.2:=by rw[Z,V]
  have Y:=Q7 us q.1 0 H om;simp only[Nat.add_zero]at Y;have F:=hc.upd ⟨Z,M⟩ q.1 om;have h0:(Ab.upd z q.1 x.cells).length=z.length:=by simp[Ab.upd];omega
  obtain⟨x0,h1,h2⟩:=Ng ρ U O ps xs ((us.zipIdx).foldl (λ cs q'=>cs.setIfInBounds (q.1+q'.2) q'.1) H) (Ab.upd z q.1 x.cells) K.2 (by simpa using L) (λ i p' x' h3 h4=>hr (i+1) p' x' h3 h4)
   (h0▸B) (by rw[Y];exact F)
  refine⟨x0,?_,by simpa [laid]using h2⟩;simp only[dN,Instr.fill,K.1];have y0:(ρ p.2).cells.size=q.2:=by rw[hu];simpa using hq
  rw[bX (by simp[y0];omega)];rw[<-h1];congr 1;rw[hu];simp
 |[],_::_,_,_,_,K,_,_,_,_=>by simp[BS]at K
 |_::_,[],_,_,_,K,_,_,_,_=>by simp[BS]at K
 |_::_,_::_,[],_,_,_,L,_,_,_=>by simp at L
def Q8{α β:Type}(f:α->Sem β)(g:α->β):∀(l:List α),(∀x∈l,(f x).run P w=.ok (g x) w)->(l.mapM f).run P w=.ok (l.map g) w
 |[],_=>by simp
 |x::l,h=>by have H:=Q8 f g l (λ y K=>h y (List.mem_cons_of_mem _ K));simp[lI,h x (by simp),H]
def DV(P:Program)(f:Field):Nat×Nat:=(f.offset,match P.info? f.type with|some k=>k.size|none=>0)
def Nh(P:Program)(T:TypeId)(H:List (Nat×Operand))(ps:List (Nat×Nat)):Bool:=
 match P.underlying T with
 |some (.struct fs)=>fs.toList.all (λ(f:Field)=>match P.info? f.type with|some _=>true|none=>false)&&
   BS (λ i=>(fs.toList[i]?).map (DV P)) H ps
 |some (.array _ e)=>match P.info? e with
  |some k=>BS (λ i=>some (i*k.size,k.size)) H ps
  |none=>false
 |_=>false
def Zd(hs:SatW E s a w W μ){T:TypeId}{H:Array (Nat×Operand)}{z:List A}{ps:List (Nat×Nat)}{xs:List A}(ho:o.op=.build T H)(hz:Aj P T z=true)(O:Nh P T H.toList ps=true)
  (Z:H.toList.length=xs.length) (hx:∀(i:Nat) (p:Nat×Operand) (x:A),H.toList[i]? =some p->xs[i]? =some x->Rep w W μ (a.eval p.2) x) (U:GI z.length ps xs):
  mT P o a w W μ s.mem (.agg (laid z ps xs)) s.mem:=by
 obtain⟨v,hv,_,y0,z0⟩:=JC hz;have hc:Cs (RepK w W μ) v.cells.toList z:=⟨y0,λ i u b B Y=>nV (z0 w W i u b B Y)⟩;have h0:∀us:List Value,(Instr.build T (H.map λ(i,x)=>(i,a.eval x))).run P w=.ok (.agg us.toArray) w->Cs (RepK w W μ) us (laid z ps xs)->mT P o a w W μ s.mem (.agg (laid z ps xs)) s.mem:=λ us B Y=>
  hs.still (v:=.agg us.toArray) (by simp only[execOp,ho,qc,B,Oc,Qc]) ⟨us,rfl,Y.1,Y.2⟩
 unfold Nh at O;split at O
 .rename_i F L;simp only[bY]at O;obtain⟨x0,M⟩:=O;obtain⟨us,B,Y⟩:=Ng (w:=w) (W:=W) (μ:=μ) a.eval _ H.toList ps xs v.cells z M Z hx U hc;refine h0 us ?_ Y;have u0:(F.mapM λ(f:Field)=>do pure (f.offset,<-sizeOf f.type):Sem (Array (Nat×Nat))).run P w=.ok ((F.toList.map (DV P)).toArray) w:=by
   have e:F=F.toList.toArray:=by simp
   rw[e,List.mapM_toArray];simp only[Sem.run_map];rw[Q8 _ (DV P) F.toList (λ f hf=>by
    have:=dT.1 x0 f hf;cases K:P.info? f.type with
    |none=>simp[K]at this
    |some k=>simp[wR K,DV,K])]
   simp
  simp only[Instr.build,qc,hv,Oc,run_underlying L,u0];have e2:(λ i:Nat=>((F.toList.map (DV P)).toArray)[i]?)=(λ i:Nat=>(F.toList[i]?).map (DV P)):=by funext i;simp
  have V:(H.map λ(x:Nat×Operand)=>(x.1,a.eval x.2)).toList=H.toList.map λ p=>(p.1,a.eval p.2):=by simp
  rw[e2,V,B];rfl
 .rename_i n e L;cases K:P.info? e with
  |none=>simp[K]at O
  |some k=>
   simp only[K]at O;obtain⟨us,B,Y⟩:=Ng (w:=w) (W:=W) (μ:=μ) a.eval _ H.toList ps xs v.cells z O Z hx U hc;refine h0 us ?_ Y;have V:(H.map λ(x:Nat×Operand)=>(x.1,a.eval x.2)).toList=H.toList.map λ p=>(p.1,a.eval p.2):=by simp
   simp only[Instr.build,qc,hv,Oc,run_underlying L,wR K];rw[V,B];rfl
 .cases O
def Ni(P:Program)(T:TypeId):Bool:=match P.info? T with|some i=>i.zero.isSome|none=>false
def Ze{P:Program}{T:TypeId}(h:Ni P T=true):∃v,∀w,(zeroValue T).run P w=.ok v w:=by
 unfold Ni at h;split at h
 .rename_i i H;obtain⟨v,K⟩:=iO.1 h;exact⟨v,λ w=>by simp[zeroValue,typeInfo,H,K]⟩
 .cases h
def bsTy(P:Program)(T:TypeId)(sz:Nat)(z:List A):Bool:=
 match P.underlying T with
 |some (.slice e)=>szIs P e sz&&Ni P e&&z.length==sz
 |_=>false
def Al:Nat->List (Nat×Operand)->Bool
 |_,[]=>true
 |n,p::ps=>p.1==n&&Al (n+1) ps
def Q9(ρ:Operand->Value)(sz:Nat):∀(U:List (Nat×Operand)) (n:Nat) (xs:List A) (O:List Value) (H:List Value) (es:List (List A)),Al n U=true->U.length=xs.length->
  (∀(i:Nat) (p:Nat×Operand) (x:A),U[i]? =some p->xs[i]? =some x->Rep w W μ (ρ p.2) x)->allV xs=true->pL sz (pH xs)->Flat (RepK w W μ) sz O es->es.length=n->H.length=xs.length*sz->
  ∃us:List Value,Instr.fill (λ i=>some (i*sz,sz)) (O++H).toArray (U.map λ p=>(p.1,ρ p.2))=some us.toArray/\Flat (RepK w W μ) sz us (es++pH xs)
 |[],n,xs,O,H,es,_,K,_,_,_,V,_,Z=>by have:xs=[]:=dA K.symm;subst this;have:H=[]:=dA (by simpa using Z);subst this;exact⟨O,by simp[Instr.fill],by simpa [pH]using V⟩
 |p::U,n,x::xs,O,H,es,ho,K,hr,hv,ha,V,hn,Z=>by
  simp only[Al,bY,dL]at ho;simp only[allV,bY]at hv;obtain⟨us,hu,L,x0⟩:=(hr 0 p x rfl rfl).toCells hv.1;have h0:x.cells.length=sz:=ha _ (by simp[pH]);have Y:O.length=n*sz:=by rw[V.hl,hn]
  have F:H.length=sz+xs.length*sz:=by rw[Z,lN,eD];omega
  have h1:Flat (RepK w W μ) sz (O++us) (es++[x.cells]):=V.append (h0▸Flat.one L x0);obtain⟨y0,h2,h3⟩:=Q9 ρ sz U (n+1) xs (O++us) (H.drop sz) (es++[x.cells]) ho.2 (by simpa using K) (λ i p' x' h4 h5=>hr (i+1) p' x' h4 h5) hv.2
   (λ c hc=>ha c (by simp[pH,hc])) h1 (by simp[hn]) (by simp[F])
  refine⟨y0,?_,by simpa [pH]using h3⟩;simp only[dN,Instr.fill,ho.1];have z0:(ρ p.2).cells.size=sz:=by rw[hu];simp;omega
  rw[bX (by simp[z0,Y,F])];rw[<-h2];congr 1;rw[hu];have B:=Q7 us (n*sz) 0 (O++H).toArray (by simp[Y,F];omega);simp only[Nat.add_zero]at B;have e4:us.toArray.zipIdx.foldl (λ M x=>M.setIfInBounds (n*sz+x.2) x.1) (O++H).toArray=us.zipIdx.foldl (λ M x=>M.setIfInBounds (n*sz+x.2) x.1) (O++H).toArray:=by simp
  apply Array.ext';rw[show(us.toArray.zipIdx.foldl (λ M (x:Value×Nat)=>match x with|(c,j)=>M.setIfInBounds (n*sz+j) c) (O++H).toArray)=us.zipIdx.foldl (λ M x=>M.setIfInBounds (n*sz+x.2) x.1) (O++H).toArray from e4];rw[B];simp only[List.take_left' Y];have e2:(O++H).drop (n*sz+us.length)=H.drop sz:=by rw[<-Y,kW];simp[L,h0]
  simp[e2]
 |_::_,_,[],_,_,_,_,K,_,_,_,_,_,_=>by simp at K
def Ra{T:TypeId}{H:Array (Nat×Operand)}{sz:Nat}{z:List A}{xs:List A}(Y:bsTy P T sz z=true)(B:Al 0 H.toList=true)(Z:H.toList.length=xs.length)(x0:xs.length*sz<=16777216)
  {ρ:Operand->Value} (hx:∀(i:Nat) (p:Nat×Operand) (x:A),H.toList[i]? =some p->xs[i]? =some x->Rep w W μ (ρ p.2) x) (hv:allV xs=true) (ha:pL sz (pH xs)):
  ∃us e,(Instr.buildSlice T xs.length (H.map λ(i,x)=>(i,ρ x))).run P w=.ok (.slice (some ⟨w.heap.size,0,none⟩) xs.length xs.length) (w.alloc (.cells us.toArray e))/\Flat (RepK w W μ) sz us (pH xs):=by
 unfold bsTy at Y;split at Y
 .rename_i e K;simp only[bY,dL]at Y;obtain⟨⟨L,h2⟩,h3⟩:=Y;obtain⟨v,y0⟩:=Ze h2;have e3:(H.map λ(x:Nat×Operand)=>(x.1,ρ x.2)).toList=H.toList.map λ p=>(p.1,ρ p.2):=by simp
  have O:∀F:Array Value,∃us:List Value,Instr.fill (λ i=>some (i*sz,sz)) ((Array.range (xs.length*sz)).map λ i=>F[i% F.size]!) (H.map λ(x:Nat×Operand)=>(x.1,ρ x.2)).toList=some us.toArray/\Flat (RepK w W μ) sz us (pH xs):=λ F=>by obtain⟨us,U,M⟩:=Q9 (w:=w) (W:=W) (μ:=μ) ρ sz H.toList 0 xs [] ((Array.range (xs.length*sz)).map λ i=>F[i% F.size]!).toList [] B Z hx hv ha (Flat.nil _ _) rfl (by simp);refine⟨us,?_,by simpa using M⟩;rw[lP,lQ]at U;rw[e3,<-U]
  by_cases V:xs.length*sz=0
  .obtain⟨us,U,M⟩:=O #[];refine⟨us,e,?_,M⟩;simp only[Instr.buildSlice,qc,run_underlying K,Oc,zZ L];rw[bX om,cA V];simp only[qc,Qc,Oc,U];simp[newRow,newObj,Sem.run]
  .obtain⟨us,U,M⟩:=O v.cells;refine⟨us,e,?_,M⟩;simp only[Instr.buildSlice,qc,run_underlying K,Oc,zZ L];rw[bX om,bX V];simp only[qc,Qc,y0,Oc,U];simp[newRow,newObj,Sem.run]
 .cases Y
def Nj:∀H:List A,(pH H).length=H.length
 |[]=>rfl
 |_::H=>by simp[pH,Nj H]
def Zf(F:SatW E s a w W μ){T:TypeId}{H:Array (Nat×Operand)}{sz id n:Nat}{z:List A}{xs:List A}(ho:o.op=.buildSlice T n H)(L:n=xs.length)(V:bsTy P T sz z=true)(Y:Al 0 H.toList=true)(Z:H.toList.length=xs.length)(O:xs.length*sz<=16777216)
  (hx:∀(i:Nat) (p:Nat×Operand) (x:A),H.toList[i]? =some p->xs[i]? =some x->Rep w W μ (a.eval p.2) x) (M:s.mem id=.fresh) (U:0<sz) (hv:allV xs=true) (ha:pL sz (pH xs)):
  mT P o a w W μ s.mem (.own id 0 xs.length) (setM s.mem [(id,.row ⟨false,sz,z,pH xs⟩)]):=by
 subst L;obtain⟨us,e,B,K⟩:=Ra (w:=w) (W:=W) (μ:=μ) V Y Z O hx hv ha;have h0:=Step.new (w':=w.alloc (.cells us.toArray e)) F.mem F.inj F.wlt M (r:=⟨false,sz,z,pH xs⟩) (us:=us) (rest:=[]) (e:=e) U (BP _ _) K (by simpa using heap_alloc_new w _);refine⟨_,.slice (some ⟨w.heap.size,0,none⟩) xs.length xs.length,_,_,_,?_,.inl rfl,?_,h0⟩
 .simp only[execOp,ho,qc,B,Oc,Qc]
 .have hk:us.length=xs.length*sz:=by rw[K.hl,Nj]
  by_cases hb:xs.length<=maxLen
  .have:=BR (w:=w.alloc (.cells us.toArray e)) (W:=λ b=>W b\/b=w.heap.size) (μ:=λ x=>if x=id then Loc.at_ ⟨w.heap.size,sz,us.length+([]:List Value).length⟩else μ x) (x:=id) (lo:=0) (n:=xs.length) (cap:=xs.length)
    (k:=⟨w.heap.size,sz,us.length+([]:List Value).length⟩) (by simp) (by simp[hk]) (dC _) om
   simpa using this
  .exfalso;have:xs.length<=xs.length*sz:=Nat.le_mul_of_pos_right _ U;simp only[maxLen]at hb;omega
def Zg(F:SatW E s a w W μ){T:TypeId}{H:Array (Nat×Operand)}{sz n:Nat}{z:List A}{xs:List A}(ho:o.op=.buildSlice T n H)(Z:n=xs.length)(hT:bsTy P T sz z=true)(Y:Al 0 H.toList=true)(hl:H.toList.length=xs.length)(O:xs.length*sz<=16777216)
  (hx:∀(i:Nat) (p:Nat×Operand) (x:A),H.toList[i]? =some p->xs[i]? =some x->Rep w W μ (a.eval p.2) x) (hv:allV xs=true) (ha:pL sz (pH xs)) (U:uJ (pH xs)):
  mT P o a w W μ s.mem (.full (pH xs)) s.mem:=by
 subst Z;obtain⟨us,e,B,M⟩:=Ra (w:=w) (W:=W) (μ:=μ) hT Y hl O hx hv ha;have L:=BP w (.cells us.toArray e);refine⟨_,.slice (some ⟨w.heap.size,0,none⟩) xs.length xs.length,_,W,μ,?_,.inl rfl,?_,Step.quiet L F.mem F.inj F.wlt⟩
 .simp only[execOp,ho,qc,B,Oc,Qc]
 .have h0:Flat (RepC (w.alloc (.cells us.toArray e)) W) sz us (pH xs):=by
   refine⟨M.hl,M.hs,λ i c j b V hb=>?_⟩;obtain⟨u,hu,hr⟩:=M.ha i c j b V hb;exact⟨u,hu,(hr.toC (U c (cU V) b (cU hb))).keep L (λ _ _ _ h=>h) (λ _ _ h=>h)⟩
  have K:=Nj xs;have:RepC (w.alloc (.cells us.toArray e)) W (.slice (some ⟨w.heap.size,0,none⟩) (pH xs).length (pH xs).length) (.sl (pH xs)):=
   RepC.mk_sl (λ h=>absurd (F.wlt _ h) (kV _)) (by simp) (dC _) h0 λ q u hq=>by
    rw[eC,World.cell?_alloc_new]
    simpa using hq
  rw[K]at this;exact rD (.full _ _ _ this)
def mkTy(P:Program)(T:TypeId)(sz H:Nat)(z:List A):Bool:=
 match P.underlying T with
 |some (.slice e)=>(match P.info? e with|some i=>i.size==sz&&i.bytes==H|none=>false)&&Aj P e z&&z.length==sz
 |_=>false
def Rb{O:Array Value}{z:List A}(hz:Cs (RepK w W μ) O.toList z)(x0:0<z.length)(n c:Nat)(F:n<=c):
  ∃us U:List Value,((Array.range (c*z.length)).map λ i=>O[i% O.size]!)=(us++U).toArray/\us.length+U.length=c*z.length/\Flat (RepK w W μ) z.length us (List.replicate n z):=by
 have M:O.size=z.length:=by simpa using hz.1
 obtain⟨L,V⟩:∃L,L=((Array.range (c*z.length)).map λ i=>O[i% O.size]!).toList:=⟨_,rfl⟩;have K:L.length=c*z.length:=by simp[V]
 have h0:=dR z.length F;refine⟨L.take (n*z.length),L.drop (n*z.length),by rw[eO,V,lQ],by rw[<-cC,eO,K],?_⟩;refine⟨by rw[dD,K,gK h0,iH],λ i c' H=>?_,λ i c' j b H hb=>?_⟩
 .rw[jL]at H;split at H<;>simp_all
 .rw[jL]at H;split at H
  .rename_i hi;cases H;have hj:j<z.length:=(cJ.1 hb).1;have Z:i*z.length+j<n*z.length:=by
    have:(i+1)*z.length<=n*z.length:=dR _ hi;rw[eD]at this;omega
   have Y:j<O.size:=om
   refine⟨O[j],?_,hz.2 j _ b (by simp[Y]) hb⟩;rw[eA,cA Z,V];have:(i*z.length+j)% O.size=j:=by rw[M,jN,Nat.mul_add_mod,Nat.mod_eq_of_lt hj]
   have B:i*z.length+j<c*z.length:=om
   simp[B,this,Y]
  .cases H
def y_mk(L:SatW E s a w W μ){T:TypeId}{x y:Operand}{sz H id:Nat}{z:List A}{k k2:IntKind}{l c:Int}(ho:o.op=.makeSlice T x y)(F:mkTy P T sz H z=true)(hx:Rep w W μ (a.eval x) (.int k l))(hy:Rep w W μ (a.eval y) (.int k2 c))(x0:s.mem id=.fresh)
  (U:0<sz) (f0:0<=l) (g0:l<=c) (l0:c*H<=140737488355328) (y0:c<=maxLen):
  mT P o a w W μ s.mem (.own id 0 l.toNat) (setM s.mem [(id,.row ⟨false,sz,z,List.replicate l.toNat z⟩)]):=by
 unfold mkTy at F;split at F
 .rename_i e hu;simp only[bY,dL]at F;obtain⟨⟨O,V⟩,h3⟩:=F;subst h3;split at O
  .rename_i i hi;simp only[bY,dL]at O;obtain⟨O,z0⟩:=O;obtain⟨v,u0,_,p0,q0⟩:=JC V;have r0:Cs (RepK w W μ) v.cells.toList z:=⟨p0,λ q u b O V=>nV (q0 w W q u b O V)⟩;obtain⟨us,rest,Y,K,hf⟩:=Rb r0 U l.toNat c.toNat om;have s0:=Step.new (w':=w.alloc (.cells (us++rest).toArray e)) L.mem L.inj L.wlt x0 (r:=⟨false,z.length,z,List.replicate l.toNat z⟩) (us:=us) (rest:=rest) (e:=e) U (BP _ _) hf (by simpa using heap_alloc_new w _);refine⟨_,.slice (some ⟨w.heap.size,0,none⟩) l.toNat c.toNat,_,_,_,?_,.inl rfl,?_,s0⟩
   .have e0:c<=9223372036854775807:=by simp only[maxLen]at y0;omega
    have t0:IntKind.i64.wrap l=l:=IntWalk.i64_in _ om;have c0:IntKind.i64.wrap c=c:=IntWalk.i64_in _ om;have e1:¬c<0:=om
    have e2:¬281474976710656<(H:Int)*c:=by rw[Int.mul_comm];omega
    have e3:¬l<0:=om
    have e4:¬c<l:=om
    have d0:∀b:Nat,(askRoom b).run P w=.ok () w:=λ b=>by unfold askRoom;split<;>simp[mark,Sem.run]
    simp only[execOp,ho,hx.int,hy.int,Instr.makeSlice,qc,run_underlying hu,Oc,asInt,asIntOf,Qc,typeInfo,run_program,hi,t0,c0,z0];simp only[e1,e2,e3,e4,d0,Int.reducePow,gt_iff_lt,cO,bZ,cI,Qc,Oc,qc,wR hi,fC,Sem.run_ite];have M:∀B:Array Value,B=(us++rest).toArray->(newRow e B).run P w=.ok ⟨w.heap.size,0,none⟩ (w.alloc (.cells (us++rest).toArray e)):=λ B h=>by subst h;simp[newRow,newObj,Sem.run]
    by_cases Z:c.toNat*i.size=0
    .rw[cA Z,M _ (by rw[<-Y,<-O,Z];simp)];rfl
    .rw[bX Z];simp only[u0,Oc];rw[M _ (by rw[O];exact Y)];rfl
   .have:=BR (w:=w.alloc (.cells (us++rest).toArray e)) (W:=λ b=>W b\/b=w.heap.size) (μ:=λ x=>if x=id then Loc.at_ ⟨w.heap.size,z.length,us.length+rest.length⟩else μ x) (x:=id) (lo:=0) (n:=l.toNat) (cap:=c.toNat)
     (k:=⟨w.heap.size,z.length,us.length+rest.length⟩) (by simp) (by simp[K]) om om
    simpa using this
  .cases O
 .cases F
def Zh{id:Nat}(hs:SatW E s a w W μ){x y:Operand}{T U:TypeId}{sz:Nat}{ax ay:A}{ef:Ef}(ho:o.op=.call {callee:=.builtin .copy,args:=#[x,y],argTypes:=#[T,U]})(hT:DT P T sz=true)
  (hx:Rep w W μ (a.eval x) ax) (hy:Rep w W μ (a.eval y) ay) (V:ev id s.mem (.copy sz) [ax,ay]=some ef) (q0:ef.obl):mT P o a w W μ s.mem ef.v (setM s.mem ef.mw):=by
 obtain⟨e,hu,hz⟩:=Q3 hT;have r0:∀n w' μ' m',(Builtin.copy_ #[T,U] o.type #[a.eval x,a.eval y]).run P w=.ok (goInt n) w'->Step s.mem m' w w' W W μ μ'->mT P o a w W μ s.mem (.int .i64 n) m':=λ n w' μ' m' h1 h3=>
  ⟨.value (goInt n),goInt n,w',W,μ',by simp[execOp,ho,resolve,invoke,builtin,h1],.inl rfl,rD (.int _ _),h3⟩
 simp only[ev]at V;cases hel:sT s.mem ay with
 |none=>simp[hel]at V
 |some new=>
  simp only[hel,qm]at V;split at V
  .rename_i y0 lo n;split at V
   .rename_i r hr;cases V;obtain⟨x0,Y,p1,g0,s0⟩:=q0;obtain⟨O,t0,hf⟩:=GN (P:=P) hs hy hel g0 s0;obtain⟨h1,h2⟩:=t0 w rfl;have h3:=h2 (Nat.min new.length n) (Nat.min_le_left _ _);have q1:((Nat.min new.length n:Nat):Int)=Nat.min new.length n:=rfl;have l0:new.take n=new.take (Nat.min new.length n):=by
     rw[show Nat.min new.length n=min new.length n from rfl];rcases Nat.le_total new.length n with h|h
     .rw[gK h,eJ h,eU]
     .rw[jW h]
    rcases hs.own hx hr with⟨m0,ad,hv⟩|⟨k,r1,h5,h6,h7,h8,h9,c0⟩
    .subst m0;have K:Nat.min new.length 0=0:=by simp
     rw[K]at h3⊢;have B:(Builtin.copy_ #[T,U] o.type #[a.eval x,a.eval y]).run P w=.ok (goInt 0) w:=by rw[hv];cases ad<;>simp[Builtin.copy_,run_underlying hu,h1,zZ hz,h3,storeCells]
     have j0:r.es.take lo++new.take 0++r.es.drop (lo+0)=r.es:=by simp
     refine r0 0 w μ _ B ?_;rw[j0,<-Y,<-x0];have:setM s.mem [(y0,MS.row ⟨r.ro,r.sz,r.z,r.es⟩)]=s.mem:=by
      funext q;simp only[setM];split
      .rename_i hq;rw[hq,hr]
      .rfl
     rw[x0]at this;rw[x0,this];exact hs.refl
    .obtain⟨_,z0,F,H,rest,e0,M,htot,L⟩:=c0;rw[Y]at z0 F L;rw[z0]at h6;generalize K:Nat.min new.length n=m at*;have s1:m<=n:=by rw[<-K];exact Nat.min_le_right _ _
     have o0:m<=new.length:=by rw[<-K];exact Nat.min_le_left _ _
     have h0:=hf.take m;have b0:(O.take (m*sz)).length=m*sz:=by rw[h0.hl];simp[gK o0]
     have a0:(lo+m)*sz<=H.length:=by rw[L.hl];exact dR _ om
     have d0:∀u∈O.take (m*sz),u.oneCell'=true:=λ u x1=>by
      obtain⟨q,hq⟩:=jC x1;have f0:=(cJ.1 hq).1;have y1:q/sz<(new.take m).length:=by rw[h0.hl]at f0;exact(iG F).2 f0
      have hc:=cF y1;have z1:=h0.hs _ _ hc;have hj:q% sz<((new.take m)[q/sz]).length:=by rw[z1];exact lC _ F
      obtain⟨u',u0,u1⟩:=h0.ha _ _ _ _ hc (cF hj);rw[jV]at u0;rw[hq]at u0;cases u0;exact u1.oneCell
     rw[eD]at a0;have p0:=run_storeCells_at P k.b (lo*sz) e0 (O.take (m*sz)) 0 (H++rest).toArray w M (by simp only[iM,cC];omega) d0;simp only[Nat.add_zero]at p0;have e1:(H++rest).take (lo*sz)=H.take (lo*sz):=fI om;have e2:(H++rest).drop (lo*sz+(O.take (m*sz)).length)=H.drop ((lo+m)*sz)++rest:=by rw[b0,<-eD];exact fJ (by rw[eD];omega)
     rw[e1,e2,<-cE]at p0;have Z:Flat (RepK w W μ) sz (H.take (lo*sz)++O.take (m*sz)++H.drop ((lo+m)*sz)) (r.es.take lo++new.take n++r.es.drop (lo+m)):=by rw[l0];exact((L.take lo).append h0).append (L.drop (lo+m))
     have B:(Builtin.copy_ #[T,U] o.type #[a.eval x,a.eval y]).run P w=.ok (goInt m) (w.setRow k.b ((H.take (lo*sz)++O.take (m*sz)++H.drop ((lo+m)*sz))++rest).toArray):=by rw[h6];simp[Builtin.copy_,run_underlying hu,h1,K,zZ hz,h3,p0]
     refine r0 m _ μ _ B ?_;exact Step.write (rest:=rest) hs.mem hs.inj hs.wlt h5 hr x0 (r':=⟨false,sz,r.z,r.es.take lo++new.take n++r.es.drop (lo+m)⟩) Y.symm (JD _ _ _) Z (setRow_heap w k.b _ _ e0 _ M) (by
      have hmeq:min n new.length=m:=by rw[<-K];exact Nat.min_comm _ _
      have:(r.es.take lo++new.take n++r.es.drop (lo+m)).length=r.es.length:=by rw[cC,cC,dD,dD,dS,hmeq,gK om];omega
      rw[Z.hl,<-htot,L.hl,this])
   .cases V
  .cases V
def Nk(P:Program)(T:TypeId)(sz:Nat)(z:List A):Bool:=
 match P.underlying T with
 |some (.slice e)=>Aj P e z&&z.length==sz
 |_=>false
def Zi{id:Nat}(V:SatW E s a w W μ){x:Operand}{T:TypeId}{sz:Nat}{z:List A}{ax:A}{ef:Ef}(ho:o.op=.call {callee:=.builtin .clear,args:=#[x],argTypes:=#[T]})(hT:Nk P T sz z=true)
  (hx:Rep w W μ (a.eval x) ax) (Z:ev id s.mem (.clear sz z) [ax]=some ef) (t0:ef.obl):mT P o a w W μ s.mem ef.v (setM s.mem ef.mw):=by
 unfold Nk at hT;split at hT
 .rename_i e hu;simp only[bY,dL]at hT;obtain⟨h2,h3⟩:=hT;subst h3;obtain⟨v,m0,_,c0,j0⟩:=JC h2;have d0:∀w' μ' m',(Builtin.clear_ #[T] o.type #[a.eval x]).run P w=.ok (.tuple #[]) w'->Step s.mem m' w w' W W μ μ'->mT P o a w W μ s.mem .any m':=λ w' μ' m' h1 h3=>
   ⟨.value (.tuple #[]),.tuple #[],w',W,μ',by simp[execOp,ho,resolve,invoke,builtin,h1],.inl rfl,trivial,h3⟩
  simp only[ev]at Z;split at Z
  .rename_i y0 lo n;split at Z
   .rename_i r hr;cases Z;obtain⟨h0,Y,o0⟩:=t0
    by_cases hn:n=0
    .have B:(Builtin.clear_ #[T] o.type #[a.eval x]).run P w=.ok (.tuple #[]) w:=by
      rcases V.own hx hr with⟨f0,ad,hv⟩|⟨k,b0,h5,h6,h7,h8,h9,x0⟩
      .rw[hv];cases ad<;>simp[Builtin.clear_,run_underlying hu]
      .rw[h6,hn];simp[Builtin.clear_,run_underlying hu]
     have a0:r.es.take lo++List.replicate n z++r.es.drop (lo+n)=r.es:=by simp[hn]
     refine d0 w μ _ B ?_;rw[a0,<-Y,<-h0];have:setM s.mem [(y0,MS.row ⟨r.ro,r.sz,r.z,r.es⟩)]=s.mem:=by
      funext q;simp only[setM];split
      .rename_i hq;rw[hq,hr]
      .rfl
     rw[h0]at this;rw[h0,this];exact V.refl
    rcases V.own hx hr with⟨f0,ad,hv⟩|⟨k,b0,h5,h6,h7,h8,h9,x0⟩
    .exact absurd f0 hn
    .obtain⟨_,z0,U,O,rest,e0,F,htot,K⟩:=x0;rw[Y]at z0 U K;rw[z0]at h6;have x1:Cs (RepK w W μ) v.cells.toList z:=⟨c0,λ q u b h1 h2=>nV (j0 w W q u b h1 h2)⟩;obtain⟨H,q0,u0,y1,M⟩:=Rb x1 U n n (dC _);have z1:H.length=n*z.length:=by rw[M.hl,iH]
     have u1:q0=[]:=gW.1 om;subst u1;have p1:(lo+n)*z.length<=O.length:=by rw[K.hl];exact dR _ o0
     have g0:∀u∈H,u.oneCell'=true:=λ u q1=>by
      obtain⟨q,hq⟩:=jC q1;have l0:=(cJ.1 hq).1;have r1:q/z.length<(List.replicate n z).length:=by rw[M.hl]at l0;exact(iG U).2 l0
      have hc:=cF r1;have s1:=M.hs _ _ hc;have hj:q% z.length<((List.replicate n z)[q/z.length]).length:=by rw[s1];exact lC _ U
      obtain⟨u',r0,t1⟩:=M.ha _ _ _ _ hc (cF hj);rw[jV]at r0;rw[hq]at r0;cases r0;exact t1.oneCell
     rw[eD]at p1;have s0:=run_storeCells_at P k.b (lo*z.length) e0 H 0 (O++rest).toArray w F (by simp only[iM,cC];omega) g0;simp only[Nat.add_zero]at s0;have e1:(O++rest).take (lo*z.length)=O.take (lo*z.length):=fI om;have e2:(O++rest).drop (lo*z.length+H.length)=O.drop ((lo+n)*z.length)++rest:=by rw[z1,<-eD];exact fJ (by rw[eD];omega)
     rw[e1,e2,<-cE]at s0;have L:Flat (RepK w W μ) z.length (O.take (lo*z.length)++H++O.drop ((lo+n)*z.length)) (r.es.take lo++List.replicate n z++r.es.drop (lo+n)):=
      ((K.take lo).append M).append (K.drop (lo+n))
     have c1:Builtin.zeroCells v.cells n=H.toArray:=by
      have p0:v.cells.size=z.length:=by simpa using c0
      rw[Builtin.zeroCells,p0];rw[p0]at u0;rw[u0,dY]
     have B:(Builtin.clear_ #[T] o.type #[a.eval x]).run P w=.ok (.tuple #[]) (w.setRow k.b ((O.take (lo*z.length)++H++O.drop ((lo+n)*z.length))++rest).toArray):=by rw[h6];simp[Builtin.clear_,run_underlying hu,hn,m0,c1,s0]
     refine d0 _ μ _ B ?_;exact Step.write (rest:=rest) V.mem V.inj V.wlt h5 hr h0 (r':=⟨false,z.length,r.z,r.es.take lo++List.replicate n z++r.es.drop (lo+n)⟩) Y.symm (JD _ _ _) L (setRow_heap w k.b _ _ e0 _ F) (by
      have:(r.es.take lo++List.replicate n z++r.es.drop (lo+n)).length=r.es.length:=by rw[cC,cC,dD,iH,dS,gK om];omega
      rw[L.hl,<-htot,K.hl,this])
   .cases Z
  .cases Z
 .cases hT
end
def DW(f:TypeId->Option (List LK))(P:Program):Nat->List Field->Option (List LK)
 |_,[]=>some []
 |off,g::gs=>if g.offset==off&&g.name != "_" then
   match f g.type with
   |some H=>if szIs P g.type H.length&&!H.isEmpty then(match DW f P (off+H.length) gs with|some r=>some (H++r)|none=>none)else none
   |none=>none
  else none
def tI(P:Program):Nat->TypeId->Option (List LK)
 |0,_=>none
 |d+1,T=>match P.underlying T with
  |some .bool=>some [.b]
  |some (.int k)=>some [.i k]
  |some .string=>some [.s]
  |some (.struct fs)=>if P.stoodInHeld T then none else DW (tI P d) P 0 fs.toList
  |_=>none
section
variable {P:Program} {o:Oper} {a:Act} {E:Env} {s:S} {w:World} {W:Nat→Prop} {μ:Nat→Loc}
def sC(P:Program)(T:TypeId)(us:List Value):Value:=match P.underlying T with
 |some d=>if aggD d then .agg us.toArray else us.headD undef
 |none=>undef
def Am:∀{H:List LK} {O:List A},nB H O=true->O.length=H.length
 |[],[],_=>rfl
 |k::H,c::O,h=>by simp only[nB,bY]at h;simp[Am h.2]
 |[],_::_,h=>by simp[nB]at h
 |_::_,[],h=>by simp[nB]at h
def Rc:∀{as H O ds:List A},as.length=H.length->eqA (as++O) (H++ds)=(eqA as H&&eqA O ds)
 |[],[],O,ds,_=>by simp[eqA]
 |a::as,b::H,O,ds,h=>by simp only[Jm,eqA];rw[Rc (by simpa using h),iB]
 |[],_::_,_,_,h=>by simp at h
 |_::_,[],_,_,h=>by simp at h
def Nl:∀{H O:List LK} {U:List A},nB (H++O) U=true->nB H (U.take H.length)=true/\nB O (U.drop H.length)=true
 |[],O,U,h=>by simpa [nB]using h
 |k::H,O,c::U,h=>by simp only[Jm,nB,bY]at h;have:=Nl h.2;simp[nB,h.1,this.1,this.2]
 |k::H,O,[],h=>by simp[nB]at h
def Cs.take{R:Value->A->Prop}{us:List Value}{O:List A}(h:Cs R us O)(n:Nat):Cs R (us.take n) (O.take n):=
 ⟨by simp[h.1],λ i u b H hb=>by
  rw[eA]at H hb;split at H
  .rename_i K;rw[cA K]at hb;exact h.2 i u b H hb
  .cases H⟩
def Cs.drop{R:Value->A->Prop}{us:List Value}{H:List A}(h:Cs R us H)(n:Nat):Cs R (us.drop n) (H.drop n):=
 ⟨by simp[h.1],λ i u b O hb=>by
  rw[eG]at O hb;exact h.2 _ u b O hb⟩
def Nm{d:Nat}{T:TypeId}{O:List LK}(h:tI P d T=some O):∃t,P.underlying T=some t/\(aggD t=false->O.length=1):=by
 cases d with
 |zero=>simp[tI]at h
 |succ d=>
  unfold tI at h;split at h
  .rename_i H;cases h;exact⟨_,H,λ _=>rfl⟩
  .rename_i k H;cases h;exact⟨_,H,λ _=>rfl⟩
  .rename_i H;cases h;exact⟨_,H,λ _=>rfl⟩
  .rename_i U H;exact⟨_,H,λ h=>by simp[aggD]at h⟩
  .cases h
def Nn{T:TypeId}{t:TypeDesc}{n off:Nat}(H:P.underlying T=some t)(U:szIs P T n=true)(Y:aggD t=false->n=1)(us:List Value)(O:off+n<=us.length):
  (part T us.toArray off).run P w=.ok (sC P T ((us.drop off).take n)) w:=by
 unfold sC;simp only[H];cases L:aggD t with
 |true=>simp[part,Ai H,L,zZ U]
 |false=>
  have:=Y L;subst this;have K:off<us.length:=om
  simp[part,Ai H,L,Na K,K]
def Rd(d:Nat):∀(T:TypeId) (ks:List LK),tI P d T=some ks->∀(D:Nat),d<=D->∀(us vs:List Value) (U ds:List A),nB ks U=true->nB ks ds=true->Cs (RepK w W μ) us U->Cs (RepK w W μ) vs ds->
  (Op.equalIn D T (sC P T us) (sC P T vs)).run P w=.ok (eqA U ds) w:=by
 induction d with
 |zero=>intro T ks h;simp[tI]at h
 |succ d ih=>
  intro T ks h D hD us vs U ds hc hd hu hv;obtain⟨D',rfl⟩:∃D',D=D'+1:=⟨D-1,by omega⟩;have x0:∀(k:LK),ks=[k]->∃c e u v,U=[c]/\ds=[e]/\us=[u]/\vs=[v]/\k.fits c=true/\k.fits e=true/\RepK w W μ u c/\RepK w W μ v e:=λ k hk=>by
   subst hk;have K:=Am hc;have L:=Am hd;have l3:=hu.1;have l4:=hv.1
   match U,ds,us,vs,K,L,l3,l4 with
   |[c],[e],[u],[v],_,_,_,_=>simp only[nB,fG]at hc hd;exact⟨c,e,u,v,rfl,rfl,rfl,rfl,hc,hd,hu.2 0 u c rfl rfl,hv.2 0 v e rfl rfl⟩
  unfold tI at h;split at h
  .rename_i Y;cases h;obtain⟨c,e,u,v,rfl,rfl,rfl,rfl,H,B,M,V⟩:=x0 _ rfl;cases c<;>simp[LK.fits]at H;cases e<;>simp[LK.fits]at B;have Z:=Rep.bool (nN (nT M));have e2:=Rep.bool (nN (nT V));subst Z;subst e2;simp only[sC,Y,aggD,bZ,cI,List.headD_cons,run_equalIn_bool' w D' T _ _ Y,eqA,eq1,fG]
  .rename_i k Y;cases h;obtain⟨c,e,u,v,rfl,rfl,rfl,rfl,H,B,M,V⟩:=x0 _ rfl;cases c<;>simp[LK.fits]at H;cases e<;>simp[LK.fits]at B;have Z:=Rep.int (nN (nT M));have e2:=Rep.int (nN (nT V));subst Z;subst e2;subst H;subst B;simp only[sC,Y,aggD,bZ,cI,List.headD_cons,run_equalIn_int w D' T _ _ _ _ Y,eqA,eq1,fG]
  .rename_i Y;cases h;obtain⟨c,e,u,v,rfl,rfl,rfl,rfl,H,B,M,V⟩:=x0 _ rfl;cases c<;>simp[LK.fits]at H;cases e<;>simp[LK.fits]at B;have Z:=Rep.str (nN (nT M));have e2:=Rep.str (nN (nT V));subst Z;subst e2;simp only[sC,Y,aggD,bZ,cI,List.headD_cons,run_equalIn_string w D' T _ _ Y,eqA,eq1,fG]
  .rename_i fs Y;split at h
   .cases h
   .rename_i p0;have y0:P.fieldsOf T=fs:=by simp[Program.fieldsOf,Y]
    simp only[sC,Y,aggD,cH];rw[run_equalIn_agg w D' T us.toArray vs.toArray (by rw[y0];exact Y) (by simpa using p0),y0];have q0:∀(gs:List Field) (off:Nat) (kk:List LK),DW (tI P d) P off gs=some kk->nB kk (U.drop off)=true->nB kk (ds.drop off)=true->
      (Op.eqFields D' us.toArray vs.toArray gs).run P w=.ok (eqA (U.drop off) (ds.drop off)) w:=by
     intro gs;induction gs with
     |nil=>intro off kk H B M;simp only[DW,cY]at H;subst H;have K:=Am B;have L:=Am M;rw[dA K,dA L];rfl
     |cons g gs r0=>
      intro off kk H B M;unfold DW at H;split at H
      .rename_i hg;simp only[bY,dL,bne_iff_ne]at hg;obtain⟨s0,t0⟩:=hg;split at H
       .rename_i O z0;split at H
        .rename_i F;split at H
         .rename_i r hr;cases H;obtain⟨a1,a2⟩:=Nl B;obtain⟨b1,b2⟩:=Nl M;obtain⟨t,ht,u0⟩:=Nm z0;have K:=Am B;have L:=Am M;simp only[dS,cC]at K L;simp only[bY,dB,kL]at F;obtain⟨F,c0⟩:=F;have d0:0<O.length:=gZ.2 c0;have l3:=hu.1;have l4:=hv.1;have p1:=Nn (w:=w) ht F u0 us (off:=off) om;have p2:=Nn (w:=w) ht F u0 vs (off:=off) om;have q:=ih g.type O z0 D' om _ _ _ _ a1 b1 ((hu.drop off).take _) ((hv.drop off).take _);rw[eV]at a2 b2;have r2:=r0 (off+O.length) r hr a2 b2;have h0:eqA (U.drop off) (ds.drop off)=(eqA ((U.drop off).take O.length) ((ds.drop off).take O.length)&&eqA (U.drop (off+O.length)) (ds.drop (off+O.length))):=by
           rw[<-eV,<-eV,<-Rc (by simp;omega),eO,eO]
          rw[h0];simp only[Op.eqFields,ne_eq,t0,iN,cH,s0,qc,p1,p2,Oc,q];cases eqA ((U.drop off).take O.length) ((ds.drop off).take O.length)with
          |true=>simpa using r2
          |false=>simp
         .cases H
        .cases H
       .cases H
      .cases H
    exact q0 fs.toList 0 ks h (by simpa using hc) (by simpa using hd)
  .cases h
def Zj(V:SatW E s a w W μ){x y:Operand}{T T2:TypeId}{H:Bool}{ks:List LK}{O ds:List A}(ho:o.op=.binOp (if H then .neq else .eql) T x y T2)(L:tI P 20 T=some ks)(Y:(match P.underlying T with|some d=>aggD d|none=>false)=true)
  (hg:P.eqGuardType P.depth T=false) (Z:Rep w W μ (a.eval x) (.agg O)) (hy:Rep w W μ (a.eval y) (.agg ds)) (hc:nB ks O=true) (hd:nB ks ds=true):
  mT P o a w W μ s.mem (.bool (if H then !eqA O ds else eqA O ds)) s.mem:=by
 obtain⟨us,B,h0,x0⟩:RepV w W μ (a.eval x) (.agg O):=Z;obtain⟨vs,F,y0,K⟩:RepV w W μ (a.eval y) (.agg ds):=hy;have h:=Rd (P:=P) (w:=w) (W:=W) (μ:=μ) 20 T ks L 10000 om us vs O ds hc hd ⟨h0,x0⟩ ⟨y0,K⟩;obtain⟨d,M,_⟩:=Nm L;rw[M]at Y;simp only[sC,M,show aggD d=true from Y,cH]at h;refine V.still (v:=.bool (if H then !eqA O ds else eqA O ds)) ?_ (rD (.bool _));cases H
 .have U:o.op=.binOp .eql T x y T2:=ho;simp only[execOp,U,B,F,qc,run_eqGuard_agg w .eql T x y us.toArray vs.toArray hg,Oc,run_eql_struct,h,bZ,cI,Qc]
 .have U:o.op=.binOp .neq T x y T2:=ho;simp only[execOp,U,B,F,qc,run_eqGuard_agg w .neq T x y us.toArray vs.toArray hg,Oc,run_neq_struct,h,cH,Qc]
def Zk(B:SatW E s a w W μ){f:FuncId}{H:Array Operand}{xs:List A}(ho:o.op=.makeFunc (.func f) #[] H)(K:H.toList.length=xs.length)(L:∀(i:Nat) (p:Operand) (x:A),H.toList[i]? =some p->xs[i]? =some x->Rep w W μ (a.eval p) x)
  (V:∀x∈xs,x.isK=true):mT P o a w W μ s.mem (.clo f xs) s.mem:=by
 refine B.still (v:=.func (.func f) #[] (H.map a.eval)) (by simp[execOp,ho,Instr.makeFunc]) (nN ?_);refine .inl ⟨(H.map a.eval).toList,by rw[lQ],by simpa using K,λ i u b O hb=>?_⟩;simp only[Array.toList_map,cV,cN]at O;obtain⟨p,F,rfl⟩:=O;have U:=L i p b F hb;have Y:=V b (cU hb);cases b<;>first|exact U|(simp[A.isK]at Y;done)|skip
 rename_i M cs;cases cs with
 |nil=>exact(RepK.toC (show RepK w W μ _ (.clo M [])from U) rfl)
 |cons=>simp[A.isK]at Y
def No:∀{H:List A},Ah H=true->∀c∈H,c.pure1=true
 |d::ds,h,c,hc=>by
  simp only[Ah,bY]at h;rcases cK.1 hc with rfl|hc
  .exact h.1
  .exact No h.2 c hc
def Zl(U:SatW E s a w W μ){f:FuncId}{x:Operand}{H:List A}(ho:o.op=.makeFunc (.func f) #[x] #[])(K:Rep w W μ (a.eval x) (.agg H))(Y:Ah H=true):mT P o a w W μ s.mem (.bnd f H) s.mem:=by obtain⟨us,B,L,F⟩:RepV w W μ (a.eval x) (.agg H):=K;refine U.still (v:=.func (.func f) #[a.eval x] #[]) (by simp[execOp,ho,Instr.makeFunc]) (rD ?_);rw[B];exact .bnd f us H L λ i u c M O=>(F i u c M O).toC (No Y c (cU O))
def Zm(O:SatW E s a w W μ){x i:Operand}{T:TypeId}{b:ByteArray}{k:IntKind}{q:Int}(ho:o.op=.index T x i)(U:P.underlying T=some .string)(L:Rep w W μ (a.eval x) (.str b))(hi:Rep w W μ (a.eval i) (.int k q))(Y:0<=q)(B:q<b.size):
  mT P o a w W μ s.mem (.int .u8 (b.toList.getD q.toNat 0).toNat) s.mem:=by
 refine O.still (v:=.int .u8 (b.toList.getD q.toNat 0).toNat) ?_ (rD (.int _ _));have K:q.toNat<b.size:=om
 have H:b.toList=b.data.toList:=ByteArray.toList_eq b;have hb:b[q.toNat]? =some (b.toList.getD q.toNat 0):=by rw[H];simp[getElem?_def,K];rfl
 simp[execOp,ho,L.str,hi.int,Instr.index,asIntOf,run_underlying U,Y,hb]
end
end
set_option linter.all false
def b6:TypeDesc->A->Bool
 | .string,.str _=>true
 | .int k,.int k' _=>k==k'
 | .bool,.bool _=>true
 |_,_=>false
def keyD(P:Program)(K:TypeId):A->Bool
 | .agg H=>(match tI P 20 K with|some O=>nB O H|none=>false)&&(match P.underlying K with|some d=>aggD d|none=>false)
 |kz=>match P.underlying K with
  |some d=>b6 d kz
  |none=>false
def zvOk(P:Program)(T:TypeId)(H:Bool)(z:List A):Bool:=match P.info? T with
 |some i=>(match i.zero with|some (.agg vs)=>H&&zY vs.toList z|some v=>!H&&zY [v] z|none=>false)
 |none=>false
def BT(P:Program)(T:TypeId)(kz:A):Bool:=match P.underlying T with
 |some (.map K _)=>keyD P K kz
 |_=>false
def Np(P:Program)(T:TypeId)(H:Bool)(z:List A):Bool:=match P.underlying T with
 |some (.map _ E)=>zvOk P E H z
 |_=>false
def JF:TypeDesc->Bool|.map _ _=>true|_=>false
section
variable {P:Program} {o:Oper} {a:Act} {E:Env} {s:S} {w:World} {W:Nat→Prop} {μ:Nat→Loc}
def SatW.mpr(U:SatW E s a w W μ){v:Value}{y:Nat}{r:Row}(K:Rep w W μ v (.mp y))(Y:s.mem y=.row r)(B:r.z≠[]):∃k,μ y=.at_ k/\v=.map (some k.b)/\zW w W r k:=by
 obtain⟨_,H⟩:RepK w W μ v (.mp y):=K;have hm:=U.mem y;rw[Y]at hm;rcases hm with⟨O,_⟩|⟨k,O,F⟩
 .rw[O]at H;exact H.elim
 .rw[O]at H;rcases F.any H.1 with h5|h5
  .exact⟨k,O,H.2,h5⟩
  .exact absurd h5.2.2.2.1 B
def Zn{d:TypeDesc}{kz k c:A}{v u:Value}(U:b6 d kz=true)
  (H:qD kz k=true) (O:qD kz c=true) (K:RepY w W v k) (Y:RepY w W u c):Instr.sameNow d v u=some (eqK k c):=by
 cases d<;>cases kz<;>simp only[b6,bZ]at U<;>
  (cases k<;>simp only[qD,key1,bZ]at H)<;>(cases c<;>simp only[qD,key1,bZ]at O)<;>
  (cases K;cases Y)
 all_goals first
  |rfl
  |(simp only[Instr.sameNow,eqK,eq1,beq_toListBytes];done)
  |(simp only[dL]at H O;subst H;subst O;simp[Instr.sameNow,eqK,eq1])
def Re{kz k c:A}{v u:Value}{n:Nat}(H:key1 kz k=true)(O:key1 kz c=true)(K:RepC w W v k)(U:RepC w W u c)(e:eq1 k c=true):Instr.sameBits n u v=true:=by
 cases kz<;>(cases k<;>simp only[key1,bZ]at H)<;>(cases c<;>simp only[key1,bZ]at O)<;>(cases K;cases U)
 all_goals simp only[eq1,dL]at e H O
 .subst e;cases n<;>simp[Instr.sameBits]
 .subst e;subst H;subst O;cases n<;>simp[Instr.sameBits]
 .cases n<;>simp only[Instr.sameBits,beq_toListBytes,e,kX]
def Rf{n:Nat}:∀{U H O:List A} {vs us:List Value},keyL U H=true->keyL U O=true->vs.length=H.length->us.length=O.length->(∀(i:Nat) (u:Value) (a:A),vs[i]? =some u->H[i]? =some a->RepC w W u a)->
  (∀(i:Nat) (u:Value) (a:A),us[i]? =some u->O[i]? =some a->RepC w W u a)->eqA H O=true->us.length=vs.length/\((us.zip vs).all λ(x,y)=>Instr.sameBits n x y)=true
 |[],[],[],[],[],_,_,_,_,_,_,_=>⟨rfl,rfl⟩
 |z::U,k::H,c::O,v::vs,u::us,K,L,h3,h4,Z,h6,V=>by simp only[keyL,bY]at K L;simp only[eqA,bY]at V;obtain⟨Y,B⟩:=Rf (n:=n) K.2 L.2 (by simpa using h3) (by simpa using h4) (λ i x a p q=>Z (i+1) x a (by simpa using p) (by simpa using q)) (λ i x a p q=>h6 (i+1) x a (by simpa using p) (by simpa using q)) V.2;refine⟨by simp[Y],?_⟩;simp only[List.zip_cons_cons,List.all_cons,bY];exact⟨Re K.1 L.1 (Z 0 v k rfl rfl) (h6 0 u c rfl rfl) V.1,B⟩
 |[],_::_,_,_,_,h,_,_,_,_,_,_=>by simp[keyL]at h
 |[],[],_::_,_,_,_,h,_,_,_,_,_=>by simp[keyL]at h
 |[],[],[],_::_,_,_,_,h,_,_,_,_=>by simp at h
 |[],[],[],[],_::_,_,_,_,h,_,_,_=>by simp at h
 |_::_,[],_,_,_,h,_,_,_,_,_,_=>by simp[keyL]at h
 |_::_,_::_,[],_,_,_,h,_,_,_,_,_=>by simp[keyL]at h
 |_::_,_::_,_::_,[],_,_,_,h,_,_,_,_=>by simp at h
 |_::_,_::_,_::_,_::_,[],_,_,_,h,_,_,_=>by simp at h
def JG{kz k:A}(h:qD kz k=true):(∃H O,kz=.agg H/\k=.agg O/\keyL H O=true)\/(kz.isAg=false/\k.isAg=false/\key1 kz k=true):=by
 cases kz
 case agg H=>cases k<;>first|(simp only[qD,key1,bZ]at h;done)|exact .inl ⟨_,_,rfl,rfl,h⟩
 all_goals(cases k<;>first|(simp only[qD,key1,bZ]at h;done)|exact .inr ⟨rfl,rfl,h⟩)
def Rg{k:A}(h:k.isAg=false){v:Value}(H:RepY w W v k):RepC w W v k:=by cases k<;>first|exact H|(simp only[A.isAg,reduceCtorEq]at h)
def Zo{k c:A}(h:k.isAg=false):eqK k c=eq1 k c:=by cases k<;>first|rfl|(simp only[A.isAg,reduceCtorEq]at h)
def Zp{kz k c:A}{v u:Value}(O:qD kz k=true)(H:qD kz c=true)(K:RepY w W v k)(B:RepY w W u c)(e:eqK k c=true):Instr.sameBits 10000 u v=true:=by
 rcases JG O with⟨zs,ks,rfl,rfl,O⟩|⟨U,F,O⟩
 .rcases JG H with⟨Y,M,L,rfl,H⟩|⟨U,_,_⟩
  .cases L;obtain⟨vs,rfl,V,Z⟩:=K;obtain⟨us,rfl,l2,r2⟩:=B;obtain⟨i1,i2⟩:=Rf (n:=9999) O H V l2 Z r2 e;simp only[Instr.sameBits,iM,i1,kX,cL];exact i2
  .cases U
 .rcases JG H with⟨Y,M,rfl,_,_⟩|⟨_,n2,H⟩
  .cases U
  .rw[Zo F]at e;exact Re O H (Rg F K) (Rg n2 B) e
def Zq(b:Bool)(d:Nat):∀(T:TypeId) (Y:List LK),tI P d T=some Y->∀(D:Nat),d<=D->∀(us:List Value),us.length=Y.length->(Instr.checkKey b D T (sC P T us)).run P w=.ok () w:=by
 induction d with
 |zero=>intro T Y h;simp[tI]at h
 |succ d ih=>
  intro T Y h D hD us K;obtain⟨F,rfl⟩:∃F,D=F+1:=⟨D-1,by omega⟩;unfold tI at h;split at h
  .rename_i O;unfold Instr.checkKey;simp only[qc,run_underlying O,Oc];rfl
  .rename_i k O;unfold Instr.checkKey;simp only[qc,run_underlying O,Oc];rfl
  .rename_i O;unfold Instr.checkKey;simp only[qc,run_underlying O,Oc];rfl
  .rename_i fs O;split at h
   .cases h
   .have L:sC P T us=.agg us.toArray:=by simp[sC,O,aggD]
    rw[L];unfold Instr.checkKey;simp only[qc,run_underlying O,Oc];rw[<-Array.forIn_toList];have hb:0+Y.length<=us.length:=om
    clear K
    generalize(0:Nat)=off at h hb;generalize fs.toList=gs at h⊢;induction gs generalizing off Y with
    |nil=>simp
    |cons g gs M=>
     unfold DW at h;split at h
     .rename_i hg;simp only[bY,dL,bne_iff_ne]at hg;obtain⟨V,Z⟩:=hg;split at h
      .rename_i U B;split at h
       .rename_i H;split at h
        .rename_i r hr;cases h;obtain⟨t,ht,y0⟩:=Nm B;simp only[bY,dB,kL]at H;obtain⟨H,z0⟩:=H;rw[cC]at hb;have p1:=Nn (w:=w) ht H y0 us (off:=off) om;have q:=ih g.type U B F om ((us.drop off).take U.length) (by simp;omega);have r2:=M r (off+U.length) om hr;simp only[List.forIn_cons,qc,Z,ne_eq,iN,cH,V,p1,Oc,q,Qc];exact r2
        .cases h
       .cases h
      .cases h
     .cases h
  .cases h
def JH:∀{H:List LK} {O U:List A},nB H O=true->keyL O U=true->nB H U=true
 |[],[],[],_,_=>rfl
 |k::H,z::O,c::U,K,L=>by
  simp only[nB,keyL,bY]at K L⊢;refine⟨?_,JH K.2 L.2⟩;cases k<;>(cases z<;>simp only[LK.fits,bZ,iZ]at K)<;>(cases c<;>simp only[key1,bZ,iZ]at L)
  .rfl
  .simp only[LK.fits,dL]at K L⊢;rw[K.1,L.1]
  .rfl
 |[],_::_,_,h,_=>by simp[nB]at h
 |_::_,[],_,h,_=>by simp[nB]at h
 |[],[],_::_,_,h=>by simp[keyL]at h
 |_::_,_::_,[],_,h=>by simp[keyL]at h
def Nq{K:TypeId}{Y:List A}(hK:keyD P K (.agg Y)=true):∃H d,tI P 20 K=some H/\nB H Y=true/\P.underlying K=some d/\aggD d=true:=by
 unfold keyD at hK;rw[bY]at hK;obtain⟨O,U⟩:=hK;split at O
 .rename_i H B;split at U
  .rename_i d F;exact⟨H,d,B,O,F,U⟩
  .cases U
 .cases O
def Rh{K:TypeId}{kz:A}(H:kz.isAg=false)(hK:keyD P K kz=true):∃d,P.underlying K=some d/\b6 d kz=true:=by
 have:(match P.underlying K with|some d=>b6 d kz|none=>false)=true:=by cases kz<;>first|exact hK|(simp only[A.isAg,reduceCtorEq]at H)
 split at this
 .rename_i d O;exact⟨d,O,this⟩
 .cases this
def Nr{K:TypeId}{kz k:A}{v:Value}(hK:keyD P K kz=true)(H:qD kz k=true)(L:RepY w W v k)(b:Bool):(Instr.checkKey b 10000 K v).run P w=.ok () w:=by
 rcases JG H with⟨zs,cs,rfl,rfl,H⟩|⟨O,n1,H⟩
 .obtain⟨U,d,Y,B,F,M⟩:=Nq hK;obtain⟨vs,rfl,V,_⟩:=L;have Z:=JH B H;have:=Zq (P:=P) (w:=w) b 20 K U Y 10000 om vs (by rw[V];exact Am Z);rwa [show sC P K vs=.agg vs.toArray by simp[sC,F,M]]at this
 .obtain⟨d,hu,hd⟩:=Rh O hK;unfold Instr.checkKey;simp only[qc,run_underlying hu,Oc];cases d<;>(cases kz<;>simp only[b6,bZ]at hd)<;>rfl
def Ns{z:List A}{kz k:A}{v:Value}(hz:z.headD .any=kz)
  (L:qD kz k=true) (Z:RepY w W v k) {K:TypeId} (hK:keyD P K kz=true):∀(es:List MapEntry) (U:List (List A)) (n:Nat),es.length=U.length->(∀(i:Nat) (e:MapEntry) (c:List A),es[i]? =some e->U[i]? =some c->tH w W z (n+i) e c)->
  (rR k U=none/\((∀d,b6 d kz=true->Instr.findNow d v es n=some none)/\(kz.isAg=true->(Instr.findAsking K v es n).run P w=.ok none w))/\∀x,mins k x U=U++[k::x])\/
  ∃(i:Nat) (e:MapEntry) (c:List A),es[i]? =some e/\U[i]? =some c/\rR k U=some c.tail/\((∀d,b6 d kz=true->Instr.findNow d v es n=some (some (n+i,e.val)))/\(kz.isAg=true->(Instr.findAsking K v es n).run P w=.ok (some (n+i,e.val)) w))/\eqK k (c.headD .any)=true/\∀x,mins k x U=U.set i (k::x)
 |[],[],n,_,_=>.inl ⟨rfl,⟨λ _ _=>rfl,λ _=>by simp[Instr.findAsking]⟩,λ _=>rfl⟩
 |e::es,c::U,n,hl,h=>by
  obtain⟨_,kk,vc,ag,rfl,_,V,h5,_⟩:=h 0 e c rfl rfl;rw[hz]at V;have M:=λ d B=>Zn (d:=d) B L V Z h5;have Y:kz.isAg=true->(Op.equal K v e.key).run P w=.ok (eqK k kk) w:=λ H=>by cases kz<;>simp only[A.isAg,bZ]at H;cases k<;>simp only[qD,key1,bZ]at L;cases kk<;>simp only[qD,key1,bZ]at V;rename_i zs ks x0;obtain⟨h0,d,g1,g2,g3,g4⟩:=Nq hK;obtain⟨vs,rfl,l1,r1⟩:=Z;obtain⟨us,y0,l2,r2⟩:=h5;rw[y0];have:=Rd (P:=P) (w:=w) (W:=W) (μ:=λ _=>.fresh) 20 K h0 g1 10000 om vs us ks x0 (JH g2 L) (JH g2 V) ⟨l1,λ i u a p q=>nV (r1 i u a p q)⟩ ⟨l2,λ i u a p q=>nV (r2 i u a p q)⟩;rw[show sC P K vs=.agg vs.toArray by simp[sC,g3,g4],show sC P K us=.agg us.toArray by simp[sC,g3,g4]]at this;exact this
  by_cases O:eqK k kk=true
  .refine .inr ⟨0,e,kk::vc,rfl,rfl,by simp[rR,O],⟨λ d B=>?_,λ H=>?_⟩,O,λ x=>by simp[mins,O]⟩
   .simp only[Instr.findNow,M d B,O,Nat.add_zero]
   .simp only[Instr.findAsking,qc,Y H,O,Oc,cH,Qc,Nat.add_zero]
  .have F:eqK k kk=false:=by simpa using O
   rcases Ns hz L Z hK es U (n+1) (by simpa using hl) (λ i e' c' x y=>by
    have:=h (i+1) e' c' (by simpa using x) (by simpa using y);rw[show n+1+i=n+(i+1)by omega];exact this)with⟨k1,⟨k2,k2'⟩,k3⟩|⟨i,e',c',k1,k2,k3,⟨k4,k4'⟩,k5,k6⟩
   .exact .inl ⟨by simp[rR,F,k1],⟨λ d B=>by simp only[Instr.findNow,M d B,F,k2 d B],λ H=>by simp only[Instr.findAsking,qc,Y H,F,Oc,bZ,cI,k2' H]⟩,λ x=>by simp[mins,F,k3]⟩
   .exact .inr ⟨i+1,e',c',by simpa using k1,by simpa using k2,by simp[rR,F,k3],⟨λ d B=>by simp only[Instr.findNow,M d B,F,k4 d B];rw[show n+1+i=n+(i+1)by omega],λ H=>by simp only[Instr.findAsking,qc,Y H,F,Oc,bZ,cI,k4' H];rw[show n+1+i=n+(i+1)by omega]⟩,k5,λ x=>by simp[mins,F,k6]⟩
 |[],_::_,_,h,_=>by simp at h
 |_::_,[],_,h,_=>by simp at h
def JI{K:TypeId}{kz:A}(hK:keyD P K kz=true){v:Value}{es:List MapEntry}{r:Option (Nat×Value)}(h:(∀d,b6 d kz=true->Instr.findNow d v es 0=some r)/\(kz.isAg=true->(Instr.findAsking K v es 0).run P w=.ok r w)):
  (Instr.findKey K v es).run P w=.ok r w:=by
 cases L:kz.isAg with
 |true=>
  obtain⟨H,rfl⟩:∃H,kz=.agg H:=by cases kz<;>first|exact⟨_,rfl⟩|(simp only[A.isAg,reduceCtorEq]at L)
  obtain⟨F,d,_,_,O,U⟩:=Nq hK;rw[run_findKey_eq w (by rw[O];cases d<;>simp only[aggD,bZ]at U<;>rfl)];exact h.2 L
 |false=>obtain⟨d,Y,B⟩:=Rh L hK;simp only[Instr.findKey,qc,run_underlying Y,Oc,h.1 d B,Qc]
def Zr{T:TypeId}{O:Bool}{z:List A}(h:zvOk P T O z=true):∃v,(∀w,(zeroValue T).run P w=.ok v w)/\∀(w:World) (W:Nat->Prop),RepX w W O v z:=by
 unfold zvOk at h;split at h
 .rename_i i K;split at h
  .rename_i vs H;simp only[bY]at h;obtain⟨rfl,h⟩:=h;refine⟨.agg vs,λ w=>by simp[zeroValue,typeInfo,K,H],λ w W=>?_⟩;have:=DS (w:=w) (W:=W) h;unfold RepX;rw[cA rfl];exact⟨vs.toList,by simp,this.1,this.2⟩
  .rename_i v _ H;simp only[bY,dB]at h;obtain⟨rfl,h⟩:=h;refine⟨v,λ w=>by simp[zeroValue,typeInfo,K,H],λ w W=>?_⟩;have:=DS (w:=w) (W:=W) h;unfold RepX;rw[bX Om]
   match z,this with
   |[b],this=>exact⟨b,rfl,this.2 0 v b rfl rfl⟩
   |[],this=>simp at this
   |_::_::_,this=>simp at this
  .cases h
 .cases h
def Nt{O:Bool}{v:Value}{H:List A}(h:RepX w W O v H):RepV w W μ v (uH O H):=by
 unfold RepX at h;cases O with
 |true=>obtain⟨vs,rfl,U,Y⟩:=(by simpa using h:∃vs:List Value,v=.agg vs.toArray/\vs.length=H.length/\∀(i:Nat) (u:Value) (a:A),vs[i]? =some u->H[i]? =some a->RepC w W u a);exact⟨vs,rfl,U,λ i u b x y=>nV (Y i u b x y)⟩
 |false=>obtain⟨b,rfl,U⟩:=(by simpa using h:∃b,H=[b]/\RepC w W v b);exact nT (nV U)
def Zs{y:Nat}{k:Blk}(h:μ y=.at_ k)(H:k.sz=0):Rep w W μ (.map (some k.b)) (.mp y):=by refine(show RepK w W μ _ (.mp y)from⟨rfl,?_⟩);rw[h];exact⟨H,rfl⟩
def Zt(H:SatW E s a w W μ){T:TypeId}{z:List A}{id:Nat}(ho:o.op=.makeMap T none)(O:s.mem id=.fresh):
  mT P o a w W μ s.mem (.mp id) (setM s.mem [(id,.row ⟨false,0,z,[]⟩)]):=by
 have U:=Step.newMap (w':=w.alloc (.map #[] 0)) H.mem H.inj H.wlt O (z:=z) (BP _ _) (by simpa using heap_alloc_new w _);refine⟨_,.map (some w.heap.size),_,_,_,?_,.inl rfl,?_,U⟩
 .simp[execOp,ho,Instr.makeMap,newObj,Sem.run]
 .exact Zs (k:=⟨w.heap.size,0,0⟩) (by simp) rfl
def Zu{kz k:A}{v:Value}(H:qD kz k=true)(U:Ah k.cells=true)(O:Rep w W μ v k):RepY w W v k:=by
 cases k
 case agg cs=>obtain⟨vs,Y,B,F⟩:RepV w W μ v (.agg cs):=O;exact⟨vs,Y,B,λ i u a p q=>(F i u a p q).toC (No U a (cU q))⟩
 all_goals(cases kz<;>simp only[qD,key1,bZ]at H)<;>exact O
def Ri:∀{O H:List A},keyL O H=true->Ah H=true
 |[],[],_=>rfl
 |z::O,c::H,h=>by simp only[keyL,bY]at h;simp only[Ah,bY];refine⟨?_,Ri h.2⟩;cases z<;>(cases c<;>simp only[key1,bZ,iZ]at h)<;>rfl
 |[],_::_,h=>by simp[keyL]at h
 |_::_,[],h=>by simp[keyL]at h
def Rj{kz k:A}{v:Value}(H:qD kz k=true)(O:Rep w W μ v k):RepY w W v k:=by refine Zu H ?_ O;cases kz<;>(cases k<;>simp only[qD,key1,bZ]at H)<;>first|rfl|exact Ri H
def Zv(hs:SatW E s a w W μ){T:TypeId}{x i:Operand}{ok H:Bool}{kz:A}{z:List A}{y:Nat}{k:A}{r:Row}(ho:o.op=.lookup T x i ok)(U:BT P T kz=true)(Z:Np P T H z=true)
  (hx:Rep w W μ (a.eval x) (.mp y)) (hk:Rep w W μ (a.eval i) k) (hr:s.mem y=.row r) (hz:r.z=[kz,.bool H]) (Y:qD kz k=true):
  mT P o a w W μ s.mem (if ok then .tup [mval H z (rR k r.es),.bool (rR k r.es).isSome]else mval H z (rR k r.es)) s.mem:=by
 obtain⟨kb,h1,h2,_,_,_,es,h3,h4,h5⟩:=hs.mpr hx hr (by rw[hz];exactλ h=>nomatch h);unfold BT at U;unfold Np at Z;split at U
 .rename_i K El hu;rw[hu]at Z;have B:=Rj Y hk;obtain⟨zv,h0,x0⟩:=Zr (P:=P) Z;have O:∀(i:Nat) (e:MapEntry) (c:List A),es.toList[i]? =some e->r.es[i]? =some c->tH w W r.z (0+i) e c:=λ i e c p q=>by rw[eC];exact h5 i e c (by simpa using p) q
  have F:∀(v:Value) (b:Bool) (M:Option (Nat×Value)),(Instr.findKey K (a.eval i) es.toList).run P w=.ok M w->(M=none/\v=zv/\b=false\/∃n,M=some (n,v)/\b=true)->RepV w W μ v (mval H z (rR k r.es))->b=(rR k r.es).isSome->
    mT P o a w W μ s.mem (if ok then .tup [mval H z (rR k r.es),.bool (rR k r.es).isSome]else mval H z (rR k r.es)) s.mem:=λ v b M g1 g2 g3 g4=>by
   refine hs.still (v:=if ok then .tuple #[v,.bool b]else v) ?_ ?_
   .simp only[execOp,ho,h2,Instr.lookup,qc,run_underlying hu,Oc,iK h3,Qc,Nr U Y B,g1];rcases g2 with⟨rfl,rfl,rfl⟩|⟨n,rfl,rfl⟩<;>cases ok<;>simp[h0]
   .cases ok with
    |false=>exact nN g3
    |true=>
     refine⟨[v,.bool b],rfl,rfl,λ i u c p q=>?_⟩
     match i with
     |0=>simp at p q;subst p;subst q;exact g3
     |1=>simp at p q;subst p;subst q;rw[g4];exact RepC.bool _
     |n+2=>simp at p
  rcases Ns (w:=w) (W:=W) (z:=r.z) (kz:=kz) (k:=k) (v:=a.eval i) (by rw[hz];rfl) Y B U es.toList r.es 0 (by simpa using h4) O with⟨L,V,_⟩|⟨j,e,c,k0,L,V,k3,_⟩
  .exact F zv false none (JI U V) (.inl ⟨rfl,rfl,rfl⟩) (by rw[L];exact Nt (x0 w W)) (by rw[L];rfl)
  .obtain⟨_,kk,cs,y0,rfl,e4,_,_,e5⟩:=O j e c k0 L;have:y0=H:=by rw[hz]at e4;simpa using e4.symm
   subst this;exact F e.val true (some (0+j,e.val)) (JI U k3) (.inr ⟨_,rfl,rfl⟩) (by rw[V];exact Nt e5) (by rw[V];rfl)
 .cases U
def Zw(w:World)(g:Nat)(H:Obj):Keeps (λ b=>b=g) w {w with heap:=w.heap.setIfInBounds g H}:=
 ⟨rfl,rfl,rfl,dC _,by simp,λ b _ hb=>by simp[iQ (lD hb)]⟩
def Zx{v:A}{u:Value}(O:Rep w W μ u v)(K:v.isV=true)(U:uJ [v.cells]):RepX w W v.isAg u v.cells:=by
 have H:∀(a:A) (x:Value),a∈v.cells->RepK w W μ x a->RepC w W x a:=λ a x L V=>by have:=U _ (dQ.2 rfl) a L;exact V.toC this
 unfold RepX;cases v<;>simp only[A.isV,bZ]at K<;>simp only[A.isAg,A.cells,cH,bZ,cI]at H|-
 case agg cs=>obtain⟨vs,Y,B,F⟩:RepV w W μ u (.agg cs):=O;exact⟨vs,Y,B,λ i x b p q=>H b x (cU q) (F i x b p q)⟩
 all_goals exact⟨_,rfl,H _ u (dQ.2 rfl) O⟩
def Zy(Z:SatW E s a w W μ){T:TypeId}{x i q:Operand}{ag:Bool}{kz:A}{y:Nat}{k v:A}{r:Row}(ho:o.op=.mapUpdate T x i q\/o.op=.insert T x i q)(Y:BT P T kz=true)
  (hx:Rep w W μ (a.eval x) (.mp y)) (hk:Rep w W μ (a.eval i) k) (hv:Rep w W μ (a.eval q) v) (hr:s.mem y=.row r) (x0:r.ro=false) (M:r.z=[kz,.bool ag]) (O:qD kz k=true)
  (hV:v.isV=true) (y0:v.isAg=ag) (hp:uJ [v.cells]):
  mT P o a w W μ s.mem .any (setM s.mem [(y,.row ⟨false,0,r.z,mins k v.cells r.es⟩)]):=by
 obtain⟨kb,h1,h2,h6,h7,h8,es,L,h4,h5⟩:=Z.mpr hx hr (by rw[M];exactλ h=>nomatch h);unfold BT at Y;split at Y
 .rename_i K El hu;have U:=Rj O hk;have z0:=Zx hv hV hp;have B:∀(i:Nat) (e:MapEntry) (c:List A),es.toList[i]? =some e->r.es[i]? =some c->tH w W r.z (0+i) e c:=λ i e c p q=>by rw[eC];exact h5 i e c (by simpa using p) q
  have F:∀n,tH w W r.z n ⟨a.eval i,a.eval q,n⟩ (k::v.cells):=λ n=>⟨rfl,k,v.cells,ag,rfl,by rw[M];rfl,by rw[M];exact O,U,y0▸z0⟩;have h0:∀(H:Array MapEntry),H.size=(mins k v.cells r.es).length->(∀(i:Nat) (e:MapEntry) (c:List A),H[i]? =some e->(mins k v.cells r.es)[i]? =some c->tH w W r.z i e c)->
    (Instr.mapUpdate T (a.eval x) (a.eval i) (a.eval q)).run P w=.ok () {w with heap:=w.heap.setIfInBounds kb.b (.map H H.size)}->mT P o a w W μ s.mem .any (setM s.mem [(y,.row ⟨false,0,r.z,mins k v.cells r.es⟩)]):=λ H g1 g2 g3=>by
   refine⟨.skip,undef,{w with heap:=w.heap.setIfInBounds kb.b (.map H H.size)},W,μ,?_,.inr ⟨rfl,rfl⟩,trivial,Step.writeMap Z.mem Z.inj Z.wlt h1 hr x0 h8 rfl rfl (Zw _ _ _) ?_ g1 g2⟩
   .rcases ho with ho|ho<;>simp only[execOp,ho,qc,g3,Oc,Qc]
   .simp[(cS.1 L).1]
  rcases Ns (w:=w) (W:=W) (z:=r.z) (kz:=kz) (k:=k) (v:=a.eval i) (by rw[M];rfl) O U Y es.toList r.es 0 (by simpa using h4) B with⟨k1,k2,k3⟩|⟨j,e,c,k0,k1,k2,k3,k4,k5⟩
  .refine h0 (es.push ⟨a.eval i,a.eval q,es.size⟩) (by rw[k3];simp[h4]) (λ n e c p q=>?_) ?_
   .rw[k3]at q;rw[Array.getElem?_push]at p;split at p
    .rename_i V;cases p;subst V;rw[h4,fE (dC _),hJ]at q;simp at q;subst q;exact F _
    .have hlt:=(cS.1 p).1;rw[dX om]at q;exact h5 n e c p q
   .rw[h2];simp only[Instr.mapUpdate,qc,run_underlying hu,Oc,iK L,Nr Y O U,JI Y k2,kM _ L,Array.size_push]
  .obtain⟨hb,kk,cs,p0,rfl,e4,e6,e7,e5⟩:=B j e c k0 k1;simp only[List.headD_cons]at k4;have hj:es[j]? =some e:=by simpa using k0
   have q0:=(cS.1 hj).1;rw[M]at e6;have u0:=Zp (w:=w) (W:=W) O e6 U e7 k4;refine h0 (es.modify j λ e'=>{e' with key:=a.eval i,val:=a.eval q}) (by rw[k5];simp[h4]) (λ n e' c' p q'=>?_) ?_
   .rw[k5]at q';rw[jT]at p
    by_cases V:j=n
    .subst V;rw[cA rfl,hj]at p;simp only[xm,cY]at p;subst p;rw[lW om]at q';cases q';have:=F e.born;rw[hb,eC]at this⊢;exact this
    .rw[bX V]at p;rw[lY V]at q';exact h5 n e' c' p q'
   .rw[h2];simp only[Instr.mapUpdate,qc,run_underlying hu,Oc,iK L,Nr Y O U,JI Y k3,eC,hj,xm,Xm,Instr.keyThatStays,u0,cH,Qc,kM _ L,Array.size_modify]
 .cases Y
def Zz(U:SatW E s a w W μ){x:Operand}{t:TypeId}{H:Array TypeId}{y:Nat}{r:Row}(ho:o.op=.call {callee:=.builtin .len,args:=#[x],argTypes:=H})(O:H[0]? =some t)
  (L:∃K Y,P.underlying t=some (.map K Y)) (V:Rep w W μ (a.eval x) (.mp y)) (B:s.mem y=.row r) (F:r.z≠[]):mT P o a w W μ s.mem (.int .i64 r.es.length) s.mem:=by
 obtain⟨kb,h1,M,_,_,_,es,Z,h4,_⟩:=U.mpr V B F;obtain⟨K,Y,hu⟩:=L;refine U.still (v:=goInt es.size) ?_ (by rw[<-h4];exact rD (.int _ _));have h5:(Builtin.len_ H o.type #[a.eval x]).run P w=.ok (goInt es.size) w:=by simp[Builtin.len_,O,M,run_underlying hu,iK Z]
 simp[execOp,ho,resolve,invoke,builtin,h5]
def SatW.itr(hs:SatW E s a w W μ){v:Value}{x y c:Nat}{rest:List (List A)}{r:Row}(hx:Rep w W μ v (.it x))(hr:s.mem x=.row r)(Y:r.es=[.mp y,.int .i64 c]::rest):
  ∃(k:Blk) (b:Nat) (H:List Nat),μ x=.at_ k/\v=.pointer (some ⟨k.b,0,none⟩)/\(r.ro=false->W k.b)/\k.sz=0/\r.sz=0/\r.z=[]/\rest=H.map iE/\RepP w W μ (.map (some b)) (.mp y)/\w.heap[k.b]? =some (.mapIter (some b) c H.toArray c):=by
 obtain⟨_,O⟩:RepK w W μ v (.it x):=hx;have hm:=hs.mem x;rw[hr]at hm;rcases hm with⟨U,_⟩|⟨k,U,h4⟩
 .rw[U]at O;exact O.elim
 .rw[U]at O;rcases h4.any O.1 with⟨_,_,_,es,L,V,B⟩|⟨L,V,B,hz,y',b,c',H,F,h9,M⟩
  .exfalso;have hi:0<es.size:=by rw[V,Y];simp
   obtain⟨_,kk,cs,ag,Z,_,_,K,_⟩:=B 0 es[0] _ (fK hi) (by rw[Y];rfl);simp only[gL]at Z;rw[<-Z.1]at K;generalize es[0].key=u at K;cases K
  .rw[Y]at F;simp only[gL,A.mp.injEq,A.int.injEq,gG,jK]at F;obtain⟨⟨rfl,x0⟩,h0⟩:=F;have:c=c':=om
   subst this;exact⟨k,b,H,U,O.2,L,O.1,B,hz,h0,h9,M⟩
def ZA{y:Nat}{k:Blk}(h:μ y=.at_ k)(H:k.sz=0):Rep w W μ (.pointer (some ⟨k.b,0,none⟩)) (.it y):=by refine(show RepK w W μ _ (.it y)from⟨rfl,?_⟩);rw[h];exact⟨H,rfl⟩
def ZB(H:SatW E s a w W μ){x:Operand}{t:TypeId}{y id:Nat}{r:Row}(ho:o.op=.range t x)(ht:∃K B,P.underlying t=some (.map K B))(L:Rep w W μ (a.eval x) (.mp y))(Y:s.mem y=.row r)(hz:r.z≠[])(O:s.mem id=.fresh):
  mT P o a w W μ s.mem (.it id) (setM s.mem [(id,.row ⟨false,0,[],[[.mp y,.int .i64 r.es.length]]⟩)]):=by
 obtain⟨kb,V,h2,_,_,h6,es,Z,h4,_⟩:=H.mpr L Y hz;obtain⟨K,B,hu⟩:=ht;have hlt:kb.b<w.heap.size:=(cS.1 Z).1;have hy:id≠y:=λ e=>by subst e;rw[O]at Y;cases Y
 have U:(w.alloc (.mapIter (some kb.b) es.size #[] es.size)).heap[w.heap.size]? =some (.mapIter (some kb.b) es.size #[] es.size):=by simpa using heap_alloc_new w _
 have F:kb.sz=0:=by have:=(H.mem y);rw[Y]at this;obtain⟨_,hk⟩:RepK w W μ _ (.mp y):=L;rw[V]at hk;exact hk.1
 have M:=Step.newAny (w':=w.alloc (.mapIter (some kb.b) es.size #[] es.size)) H.mem H.inj H.wlt O (r:=⟨false,0,[],[[.mp y,.int .i64 r.es.length]]⟩) (BP _ _) (cS.1 U).1
  (.inr (.inr ⟨λ _=>.inr rfl,rfl,rfl,rfl,y,kb.b,es.size,[],by rw[h4];rfl,⟨rfl,by simp only[bX (lD hy),V];exact⟨F,trivial⟩⟩,U⟩))
 refine⟨_,.pointer (some ⟨w.heap.size,0,none⟩),_,_,_,?_,.inl rfl,?_,M⟩
 .simp only[execOp,ho,h2,qc,run_range_map w t K B kb.b es es.size hu Z,Oc,Qc]
 .exact ZA (k:=⟨w.heap.size,0,0⟩) (by simp) rfl
def Rk{r:Row}{k:Blk}{es:Array MapEntry}(U:es.size=r.es.length)(O:∀(i:Nat) (e:MapEntry) (c:List A),es[i]? =some e->r.es[i]? =some c->tH w W r.z i e c):∀i (hi:i<es.size),es[i].born=i:=λ i hi=>by
 have H:i<r.es.length:=om
 exact(O i es[i] r.es[i] (fK hi) (cF H)).1
def ZC{es:Array MapEntry}(h:∀i (hi:i<es.size),es[i].born=i):(es.toList.map (·.born)).Nodup:=by
 have:es.toList.map (·.born)=List.range es.size:=by
  apply jX
  .simp
  .intro i H O;simp only[dK,Array.length_toList]at H;simp[h i H]
 rw[this];exact jY
def ZD{v:Value}{k:A}(h:RepY w W v k):RepV w W μ v k:=by
 cases k
 case agg cs=>obtain⟨vs,H,O,U⟩:=h;exact⟨vs,H,O,λ i u b x y=>nV (U i u b x y)⟩
 all_goals exact nT (nV h)
def Rl{z c:List A}{e:MapEntry}{i:Nat}(h:tH w W z i e c):∀(j:Nat) (u:Value) (b:A),[e.key,e.val][j]? =some u->(mEnt z c)[j]? =some b->RepV w W μ u b:=by
 obtain⟨_,k,F,M,rfl,U,_,Y,B⟩:=h;intro j u b H O;rw[U]at O
 match j with
 |0=>simp[mEnt]at H O;subst H;subst O;exact ZD Y
 |1=>simp[mEnt]at H O;subst H;subst O;exact Nt B
 |n+2=>simp at H
def ZE(V:SatW E s a w W μ){x:Operand}{X y i:Nat}{r q:Row}(ho:o.op=.entry x)(hx:Rep w W μ (a.eval x) (.it X))(hr:s.mem X=.row r)(hi:GJ r.es=some (y,i))(hq:s.mem y=.row q)
  (F:r.es.head? =some [.mp y,.int .i64 q.es.length]) (hz:q.z≠[]) (h0:i<q.es.length) (d:List A):mT P o a w W μ s.mem (.tup (mEnt q.z (q.es.getD i d))) s.mem:=by
 obtain⟨H,he⟩:∃H,r.es=[.mp y,.int .i64 q.es.length]::H:=by
  cases K:r.es with
  |nil=>rw[K]at F;simp at F
  |cons c H=>rw[K]at F;simp at F;exact⟨H,by rw[F]⟩
 obtain⟨k,b,U,h1,h2,_,_,_,_,h5,h6,h7⟩:=V.itr hx hr he;obtain⟨kb,g1,g2,_,_,_,es,g3,g4,g5⟩:=V.mpr (v:=.map (some b)) (nN (nT h6.toK)) hq hz;cases g2;rw[he,h5]at hi;simp only[GJ,List.head?_cons,List.tail_cons,List.getLast?_map]at hi;cases Z:U.getLast? with
 |none=>rw[Z]at hi;simp at hi
 |some O=>
  rw[Z]at hi;simp[iE]at hi;subst hi;have Y:O<es.size:=om
  have hb:=Rk (k:=kb) g4 g5;obtain⟨L,x0⟩:∃L,U=L++[O]:=List.getLast?_eq_some_iff.1 Z;have B:U.toArray=L.toArray.push es[O].born:=by rw[x0,hb O Y];simp
  have M:=run_entry_at (P:=P) w k.b kb.b q.es.length L.toArray es es.size es[O] (by rw[<-B,h7,g4]) g3 (by simp) (ZC hb);refine V.still (v:=.tuple #[es[O].key,es[O].val]) (by simp only[execOp,ho,h2,qc,M,Oc,Qc]) ?_;refine⟨[es[O].key,es[O].val],rfl,rfl,Rl (i:=O) (g5 O es[O] (q.es.getD O d) (fK Y) ?_)⟩;rw[cD,cF h0];rfl
def entQ(d:List A)(m:Nat->MS)(K:A->List (Nat×MS)->Prop):List A->Prop
 |[.it x]=>match m x with
  | .row r=>match GJ r.es with
   |some (y,i)=>match m y with
    | .row q=>r.es.head? =some [.mp y,.int .i64 q.es.length]/\q.z≠[]/\i<q.es.length/\K (.tup (mEnt q.z (q.es.getD i d))) []
    |_=>False
   |none=>False
  |_=>False
 |_=>False
structure Both (p q:Prop):Prop where
 fst:p
 snd:q
def nxtQ(d:List A)(m:Nat->MS)(K:A->List (Nat×MS)->Prop):List A->Prop
 |[.it x]=>match m x with
  | .row r=>match r.es with
   |[.mp y,.int .i64 c]::seen=>match m y with
    | .row q=>r.ro=false/\q.z≠[]/\c=q.es.length/\
      Both (∀i:Nat,i<q.es.length->iE i∉seen->K (.tup (.bool true::mEnt q.z (q.es.getD i d))) [(x,.row ⟨false,0,[],[.mp y,.int .i64 c]::(seen++[iE i])⟩)])
      ((∀i:Nat,i<q.es.length->iE i∈seen)->K (.tup [.bool false]) [])
    |_=>False
   |_=>False
  |_=>False
 |_=>False
def ZF(Z:SatW E s a w W μ){x:Operand}{av:A}{K:A->List (Nat×MS)->Prop}(ho:o.op=.next x false)(hx:Rep w W μ (a.eval x) av){d:List A}(h:nxtQ d s.mem K [av]):
  ∃v mw,K v mw/\(∀q∈mw,∃r,q.2=.row r/\∃r',s.mem q.1=.row r')/\mT P o a w W μ s.mem v (setM s.mem mw):=by
 cases av<;>simp only[nxtQ]at h;rename_i X;split at h
 .rename_i r hr;split at h
  .rename_i y c U he;split at h
   .rename_i q hq;obtain⟨x0,hz,hc,⟨h1,h2⟩⟩:=h;obtain⟨n,rfl⟩:∃n:Nat,c=n:=⟨q.es.length,hc⟩;have hn:n=q.es.length:=om
    subst hn;obtain⟨k,b,O,e1,e2,eW,e0,e3,e4,e5,e6,e7⟩:=Z.itr hx hr he;obtain⟨kb,g1,g2,_,_,_,es,g3,g4,g5⟩:=Z.mpr (v:=.map (some b)) (nN (nT e6.toK)) hq hz;cases g2;have hb:=Rk (k:=kb) g4 g5;have H:∀i:Nat,iE i∈U↔i∈O:=λ i=>by
     rw[e5];simp only[iE,cR,gL,A.int.injEq,gG,jK];constructor
     .rintro⟨j,hj,c0⟩;have:j=i:=om
      exact this▸hj
     .intro L;exact⟨i,L,rfl⟩
    have y0:∀x∈es.toList,x.born<q.es.length:=λ x hx=>by obtain⟨i,L,rfl⟩:=gJ hx;simp only[Array.length_toList]at L;simp only[Array.getElem_toList,hb i L];omega
    have p0:w.heap[k.b]? =some (.mapIter (some kb.b) q.es.length O.toArray q.es.length):=e7;rcases run_next_at (P:=P) w o.type k.b kb.b q.es.length q.es.length O.toArray es es.size p0 g3 y0 (dC _)with⟨l1,V⟩|⟨e,l1,Y,V,l3⟩
    .refine⟨_,_,h2 λ i L=>(H i).2 ?_,(λ q hq=>nomatch hq),Z.still (v:=.tuple #[.bool false]) (by simp only[execOp,ho,e2,qc,V,Oc,Qc]) ?_⟩
     .have q0:i<es.size:=om
      have:es[i]∉(leftOf es O.toArray).toList:=by have:(leftOf es O.toArray)=#[]:=Array.eq_empty_of_size_eq_zero l1;rw[this];simp
      unfold leftOf at this;simp[hb i q0]at this;exact this
     .exact⟨[.bool false],rfl,rfl,λ j u b B h4=>by
       match j with
       |0=>simp at B h4;subst B;subst h4;exact RepC.bool _
       |n+1=>simp at B⟩
    .obtain⟨m1,m2⟩:=mem_left l1;obtain⟨i,L,rfl⟩:=gJ m1;simp only[Array.length_toList]at L;simp only[Array.getElem_toList]at l3 m2;rw[hb i L]at l3 m2;have r0:i∉O:=by simpa using m2
     refine⟨_,_,h1 i om (λ hh=>r0 ((H i).1 hh)),(λ q' z0=>by simp at z0;subst z0;exact⟨_,rfl,r,hr⟩),?_⟩;have hlt:=(cS.1 e7).1;have F:Y.heap=w.heap:=by rcases V with h|h<;>rw[h]<;>rfl
     have M:Keeps (λ b=>b=k.b) w (ChangeMaps.setBlock Y k.b (.mapIter (some kb.b) q.es.length (O.toArray.push i) es.size)):=by
      refine⟨?_,?_,?_,?_,?_,λ b hb s0=>?_⟩
      .rcases V with h|h<;>rw[h]<;>rfl
      .rcases V with h|h<;>rw[h]<;>rfl
      .rcases V with h|h<;>rw[h]<;>rfl
      .rcases V with h|h<;>rw[h]
       .exact dC _
       .exact kQ _
      .rw[show(ChangeMaps.setBlock Y k.b (.mapIter (some kb.b) q.es.length (O.toArray.push i) es.size)).heap.size=Y.heap.size by simp[ChangeMaps.setBlock],F];exact dC _
      .have:(ChangeMaps.setBlock Y k.b (.mapIter (some kb.b) q.es.length (O.toArray.push i) es.size)).heap[b]? =Y.heap[b]? :=by
        simp[ChangeMaps.setBlock,iQ (lD s0)]
       rw[this,F]
     have h0:=eW x0;have t0:=Step.writeAny (r':=⟨false,0,[],[.mp y,.int .i64 q.es.length]::(U++[iE i])⟩) Z.mem Z.inj Z.wlt e1 hr x0 M
      (.inr (.inr ⟨λ _=>h0,e0,rfl,rfl,y,kb.b,q.es.length,O++[i],by rw[e5];simp,e6.goes M (λ b _ h1 h2=>h1 (h2▸h0)) (λ _ _ h=>h) (Old.refl μ),by
       rw[g4];have:k.b<Y.heap.size:=by rw[F];exact hlt
       simp[ChangeMaps.setBlock,this]⟩))
     refine⟨_,.tuple #[.bool true,es[i].key,es[i].val],_,W,μ,by simp only[execOp,ho,e2,qc,l3,Oc,Qc],.inl rfl,?_,t0⟩;have u0:=(g5 i es[i] (q.es.getD i d) (fK L) (by rw[cD,cF om];rfl)).keep M (λ b _ h1 h2=>h1 (h2▸h0)) (λ _ _ h=>h);refine⟨[.bool true,es[i].key,es[i].val],rfl,rfl,λ j u b B h4=>?_⟩;cases j with
     |zero=>simp at B h4;subst B;subst h4;exact RepC.bool _
     |succ j=>exact Rl (i:=i) u0 j u b (by simpa using B) (by simpa using h4)
   .exact h.elim
  .exact h.elim
 .exact h.elim
def ZG(U:SatW E s a w W μ){x:Operand}{av:A}{K:A->List (Nat×MS)->Prop}(ho:o.op=.entry x)(L:Rep w W μ (a.eval x) av){d:List A}(h:entQ d s.mem K [av]):
  ∃v H,K v H/\(∀q∈H,∃r,q.2=.row r/\∃Y,s.mem q.1=.row Y)/\mT P o a w W μ s.mem v (setM s.mem H):=by
 cases av<;>simp only[entQ]at h;split at h
 .rename_i r B;split at h
  .rename_i y i V;split at h
   .rename_i q O;obtain⟨F,M,Z,h4⟩:=h;exact⟨_,_,h4,(λ q O=>nomatch O),ZE U ho L B V O F M Z d⟩
   .exact h.elim
  .exact h.elim
 .exact h.elim
end
end Ab
end Go.Proofs.YtfmnjkfhahfhgaaGreatDoor
