import Derived.WalkKit
import Derived.Laws.AppendOwn
import Derived.Laws.AppendOwnNone
import Derived.Laws.OwnMore
import Derived.Laws.MakeOwn
import Derived.Laws.CopyOwn
import Derived.Orders
namespace Go.Proofs.YtfmnjkfhahfhgaaGreatDoor
namespace Ab
set_option linter.defProp false
theorem Qm(n:Nat):(n:Int).toNat=n:=rfl
theorem Km{A:Type _}{a:A}:[a].length=1:=rfl
theorem ym{A:Type _}{a:A}{l:List A}:(a::l).length=l.length+1:=rfl
theorem Ym{A:Type _}:([]:List A).length=0:=rfl
theorem xm{A:Type _}{B:Type _}(a:A)(f:A->B):(some a).map f=some (f a):=rfl
theorem Xm{A:Type _}{a b:A}:(some a).getD b=a:=rfl
theorem jm{A:Type _}(l:List A):[]++l=l:=rfl
theorem Jm{A:Type _}{a:A}{l m:List A}:a::l++m=a::(l++m):=rfl
theorem oc{A:Type _}:(none:Option A).isSome=false:=rfl
def Oc:=@Result.andThen_ok
def qc:=@Sem.run_bind
def Qc:=@Sem.run_pure
theorem om{p:Prop}(h:p:=by omega):p:=h
theorem Om{p:Prop}(h:p:=by decide):p:=h
theorem qm{A:Type _}{B:Type _}(a:A)(f:A->Option B):(some a).bind f=f a:=rfl
def eF:=@Option.bind_some
def lF:=@Int.toNat_natCast
def lG:=@ByteArray.toList_eq
def lH:=@List.length_cons
def lI:=@List.getD_eq_getElem?_getD
def lJ:=@List.nil_append
def lK:=@Array.toArray_toList
def lL:=@Option.map_some
def lM:=@List.length_singleton
def lN:=@List.length_nil
def lO:=@Nat.add_zero
def lP:=@List.foldl_cons
def lQ:=@List.getElem?_set_self
def lR:=@List.take_zero
def lS:=@List.getElem?_set_ne
def lT:=@List.take_succ_cons
def lU:=@Int.zero_add
def lV:=@Nat.pow_succ
def bX:=@if_neg
def bY:=@Bool.and_eq_true
def bZ:=@Bool.false_eq_true
def cA:=@List.length_append
def cB:=@if_pos
def cC:=@decide_eq_true_eq
def cD:=@List.getD_eq_getElem?_getD
def cE:=@List.getElem?_eq_getElem
def cF:=@decide_true
def cG:=@List.append_assoc
def cH:=@if_true
def cI:=@if_false
def cJ:=@Option.some.injEq
def cK:=@List.getElem?_eq_some_iff
def cL:=@List.mem_cons
def cN:=@Bool.true_and
def cO:=@Option.map_eq_some_iff
def cP:=@decide_false
def cQ:=@decide_eq_true
def cR:=@Bool.not_true
def cS:=@List.mem_map
def cU:=@Array.getElem?_eq_some_iff
def cV:=@List.mem_of_getElem?
def cW:=@List.getElem?_map
def cX:=@and_self
def cY:=@List.mem_append
def dA:=@Bool.not_eq_true'
def dB:=@List.eq_nil_of_length_eq_zero
def dC:=@List.length_drop
def dD:=@List.pairwise_cons
def dE:=@List.length_take
def dF:=@decide_eq_false_iff_not
def dG:=@Nat.le_refl
def dH:=@Prod.mk.injEq
def dI:=@Nat.le_trans
def dJ:=@Bool.eq_false_iff
def dK:=@List.mem_append_right
def dL:=@Bool.not_false
def dM:=@List.length_map
def dN:=@beq_iff_eq
def dO:=@List.map_cons
def dP:=@List.mem_singleton
def dQ:=@List.all_eq_true
def dR:=@Bool.eq_iff_iff
def dS:=@Bool.or_eq_true
def dT:=@Bool.false_or
def dU:=@Nat.mul_le_mul_right
def dV:=@List.mem_append_left
def dW:=@List.length_set
def dX:=@List.getElem?_append_left
def dY:=@Option.some.inj
def dZ:=@congrArg
def eA:=@List.getElem?_take
def eC:=@Nat.zero_add
def eD:=@Nat.add_mul
def eE:=@List.append_nil
def eG:=@List.getElem?_drop
def eH:=@List.mem_range
def eJ:=@List.take_of_length_le
def eK:=@Nat.lt_of_lt_of_le
def eN:=@Nat.add_comm
def eO:=@List.take_append_drop
def eP:=@List.Nodup.length_le_of_subset
def eQ:=@List.flatMap_cons
def eT:=@Nat.lt_succ_self
def eU:=@Classical.byContradiction
def eV:=@List.take_length
def eX:=@List.not_mem_nil
def eY:=@List.take_append_of_le_length
def eZ:=@List.range_eq_range'
def fA:=@Bool.false_and
def fB:=@List.drop_drop
def fC:=@decide_eq_false
def fD:=@implies_true
def fE:=@List.drop_left
def fF:=@Classical.choose_spec
def fG:=@Bool.or_self
def fH:=@List.getElem?_append_right
def fI:=@Bool.and_true
def fJ:=@Array.getElem?_eq_getElem
def fK:=@List.pairwise_iff_getElem
def fL:=@List.map_append
def fM:=@List.mem_flatMap
def fN:=@Sum.inl.injEq
def fO:=@List.getElem?_toArray
def fP:=@Nat.le_of_ble_eq_true
def fQ:=@Nat.eq_of_beq_eq_true
def fR:=@List.take_succ_eq_append_getElem
def fS:=@Nat.zero_le
def fT:=@List.drop_zero
def fU:=@List.pairwise_append
def fV:=@and_assoc
def fW:=@List.drop_append_of_le_length
def fX:=@Bool.not_eq_false
def fY:=@Bool.true_or
def fZ:=@List.mem_filterMap
def gB:=@List.getElem?_append
def gC:=@Nat.mul_one
def gD:=@List.mem_iff_getElem
def gE:=@Array.getD_eq_getD_getElem?
def gF:=@Nat.add_assoc
def gG:=@true_and
def gH:=@of_decide_eq_true
def gJ:=@List.getElem_of_mem
def gK:=@List.cons.injEq
def gL:=@List.drop_eq_getElem_cons
def gN:=@Bool.true_eq_false
def gO:=@Bool.not_eq_true
def gP:=@Bool.and_self
def gQ:=@List.length_filterMap_le
def gR:=@List.set_set
def gS:=@List.length_eq_zero_iff
def gT:=@Option.bind_eq_some_iff
def gU:=@Nat.min_eq_left
def gV:=@List.mem_filter
def gW:=@List.length_pos_iff
def gX:=@List.getD_cons_succ
def gY:=@Nat.sub_self
def gZ:=@List.drop_eq_nil_of_le
def hI:=@List.range'_succ
def hJ:=@Bool.and_assoc
def hX:=@Array.getElem?_append_left
def hY:=@Bool.and_false
def hZ:=@Nat.div_lt_iff_lt_mul
def iA:=@List.length_replicate
def iB:=@List.getElem?_eq_none
def iC:=@List.set_append_right
def iD:=@List.findIdx?_eq_some_iff_getElem
def iF:=@Go.MapKept.run_getObj_map
def iG:=@List.size_toArray
def iH:=@not_false_eq_true
def iI:=@or_false
def iJ:=@List.mem_of_mem_take
def iK:=@Option.isSome_iff_exists
def iL:=@Int.lt_irrefl
def iM:=@Array.getElem?_setIfInBounds_ne
def iN:=@Int.toNat_of_nonneg
def iO:=@List.drop_length
def iP:=@List.getElem_mem
def iQ:=@List.map_nil
def iR:=@Int.add_zero
def iS:=@List.nodup_cons
def iT:=@false_and
def iU:=@Array.getElem?_toList
def iV:=@List.length_filter_le
def iW:=@List.getElem?_of_mem
def iX:=@Bool.or_eq_false_iff
def iY:=@List.Perm.refl
def iZ:=@List.mem_of_mem_drop
def jA:=@Nat.le_of_lt
def jB:=@decide_eq_decide
def jC:=@List.mem_or_eq_of_mem_set
def jD:=@List.filter_sublist
def jE:=@List.flatMap_append
def jF:=@and_true
def jG:=@Bool.or_false
def jH:=@Int.emod_nonneg
def jI:=@Int.emod_lt_of_pos
def jJ:=@List.getElem?_replicate
def jK:=@List.set_eq_take_append_cons_drop
def jL:=@false_or
def jM:=@List.nodup_append
def jN:=@getElem!_pos
def jO:=@Bool.or_true
def jP:=@Array.getElem?_modify
def jQ:=@List.sizeOf_lt_of_mem
def jR:=@Nat.div_add_mod'
def jS:=@List.drop_append
def jT:=@Nat.min_eq_right
def jU:=@List.nodup_range
def jV:=@List.filter_cons
def jW:=@List.getElem_map
def jX:=@false_implies
def jY:=@List.contains_eq_mem
def jZ:=@List.getLast?_eq_some_getLast
def kA:=@List.map_eq_nil_iff
def kB:=@Nat.zero_mul
def kC:=@List.map_map
def kD:=@Nat.lt_or_ge
def kE:=@List.perm_ext_iff_of_nodup
def kF:=@List.isEmpty_eq_false_iff
def kG:=@Go.MapKept.run_setObj_map
def kH:=@List.mem_of_find?_eq_some
def kI:=@List.findIdx?_eq_none_iff
def kJ:=@not_true_eq_false
def kK:=@Nat.le_succ
def kL:=@dif_pos
def kM:=@List.findIdx_cons
def kN:=@Int.le_refl
def kO:=@Decidable.not_not
def kP:=@List.pairwise_map
def kQ:=@Option.bind_assoc
def kR:=@Nat.lt_irrefl
def kS:=@beq_self_eq_true
def kT:=@List.ext_getElem
def kU:=@ite_self
def kV:=@List.any_eq_true
def kW:=@Nat.mod_lt
def kX:=@Nat.mul_comm
def kY:=@Ne.symm
def kZ:=@Iff.rfl
def lA:=@List.map_set
def lB:=@List.take_take
def lC:=@List.mapM_cons
def lD:=@Option.or_none
def lE:=@not_or
set_option linter.unusedSimpArgs false
set_option linter.unusedVariables false
inductive A where
 |bool (b:Bool)
 |int (k:IntKind) (n:Int)
 |str (s:ByteArray)
 |sl (es:List (List A))
 |full (es:List (List A))
 |own (x lo n:Nat)
 |ptr (x i j:Nat)
 |mp (x:Nat)
 |it (x:Nat)
 |rd (cs:List A) (off:Nat)
 |agg (cs:List A)
 |tup (vs:List A)
 |clo (f:FuncId) (caps:List A)
 |bnd (f:FuncId) (cs:List A)
 |cnd (g:Bool) (a:A)
 |any
def yZ:FuncId:=1000000000
structure Row where
 ro:Bool
 sz:Nat
 z:List A
 es:List (List A)
structure Blk where
 b:Nat
 sz:Nat
 tot:Nat
inductive Loc where
 |fresh
 |dead
 |empty
 |at_ (k:Blk)
inductive RepC (w:World) (W:Nat->Prop):Value->A->Prop
 |bool (b:Bool):RepC w W (.bool b) (.bool b)
 |int (k:IntKind) (n:Int):RepC w W (.int k n) (.int k n)
 |str (s:ByteArray):RepC w W (.string s) (.str s)
 |fn (f:FuncId):RepC w W (.func (.func f) #[] #[]) (.clo f [])
 |nf:RepC w W .nilFunc (.clo yZ [])
 |sl0 (a:Option Addr) (cap:Nat):RepC w W (.slice a 0 cap) (.sl [])
 |sl (b off cap sz:Nat) (es:List (List A)) (us:List Value) (hb:¬W b) (hlt:b<w.heap.size) (hn:0<es.length) (hcap:es.length<=cap)
   (hsz:∀(i:Nat) (c:List A),es[i]? =some c->c.length=sz) (hlen:us.length=es.length*sz)
   (hc:∀(q:Nat) (u:Value),us[q]? =some u->w.cell? ⟨b,off+q,none⟩=some u)
   (hr:∀(i:Nat) (c:List A) (j:Nat) (a:A),es[i]? =some c->c[j]? =some a->RepC w W (us.getD (i*sz+j) undef) a):
   RepC w W (.slice (some ⟨b,off,none⟩) es.length cap) (.sl es)
 |full (a:Option Addr) (n:Nat) (es:List (List A)) (h:RepC w W (.slice a n n) (.sl es)):RepC w W (.slice a n n) (.full es)
 |bnd (f:FuncId) (us:List Value) (cs:List A) (hl:us.length=cs.length) (hr:∀(i:Nat) (u:Value) (c:A),us[i]? =some u->cs[i]? =some c->RepC w W u c):RepC w W (.func (.func f) #[.agg us.toArray] #[]) (.bnd f cs)
def RepP(w:World)(W:Nat->Prop)(μ:Nat->Loc)(v:Value):A->Prop
 | .own x lo n=>v.oneCell'=true/\match μ x with
   | .fresh=>False
   | .dead=>True
   | .empty=>n=0/\∃a,v=.slice a 0 0
   | .at_ k=>0<k.sz/\((n=0/\∃a,v=.slice a 0 0)\/∃H,v=.slice (some ⟨k.b,lo*k.sz,none⟩) n H/\(lo+H)*k.sz<=k.tot/\n<=H/\lo+H<=maxLen)
 | .ptr x i j=>v.oneCell'=true/\match μ x with
   | .fresh=>False
   | .dead=>True
   | .empty=>False
   | .at_ k=>0<k.sz/\v=.pointer (some ⟨k.b,i*k.sz+j,none⟩)
 | .mp x=>v.oneCell'=true/\match μ x with
   | .fresh=>False
   | .dead=>True
   | .empty=>False
   | .at_ k=>k.sz=0/\v=.map (some k.b)
 | .it x=>v.oneCell'=true/\match μ x with
   | .fresh=>False
   | .dead=>True
   | .empty=>False
   | .at_ k=>k.sz=0/\v=.pointer (some ⟨k.b,0,none⟩)
 | .rd U O=>∃b o,v=.pointer (some ⟨b,o+O,none⟩)/\¬W b/\b<w.heap.size/\∀(j:Nat) (a:A),U[j]? =some a->∃u,w.cell? ⟨b,o+j,none⟩=some u/\RepC w W u a
 |a=>RepC w W v a
def RepK(w:World)(W:Nat->Prop)(μ:Nat->Loc)(v:Value):A->Prop
 | .clo f H=>(∃vs:List Value,v=.func (.func f) #[] vs.toArray/\vs.length=H.length/\∀(i:Nat) (u:Value) (a:A),vs[i]? =some u->H[i]? =some a->RepP w W μ u a)\/v=.nilFunc/\f=yZ/\H=[]
 |a=>RepP w W μ v a
def RepV(w:World)(W:Nat->Prop)(μ:Nat->Loc)(v:Value):A->Prop
 | .agg H=>∃vs:List Value,v=.agg vs.toArray/\vs.length=H.length/\∀(i:Nat) (u:Value) (a:A),vs[i]? =some u->H[i]? =some a->RepK w W μ u a
 |a=>RepK w W μ v a
def Rep(w:World)(W:Nat->Prop)(μ:Nat->Loc)(v:Value):A->Prop
 | .any=>True
 | .tup as=>∃vs:List Value,v=.tuple vs.toArray/\vs.length=as.length/\∀(i:Nat) (u:Value) (a:A),vs[i]? =some u->as[i]? =some a->RepV w W μ u a
 | .cnd g a=>(g=true->RepV w W μ v a)/\(g=false->v=undef)
 |a=>RepV w W μ v a
structure Flat (R:Value->A->Prop) (sz:Nat) (us:List Value) (es:List (List A)):Prop where
 hl:us.length=es.length*sz
 hs:∀(i:Nat) (c:List A),es[i]? =some c->c.length=sz
 ha:∀(i:Nat) (c:List A) (j:Nat) (a:A),es[i]? =some c->c[j]? =some a->∃u,us[i*sz+j]? =some u/\R u a
def uX(w:World)(W:Nat->Prop)(μ:Nat->Loc)(r:Row)(k:Blk):Prop:=
 (r.ro=false->W k.b)/\k.sz=r.sz/\0<r.sz/\
  ∃(us H:List Value) (e:TypeId),w.heap[k.b]? =some (.cells (us++H).toArray e (0,0))/\us.length+H.length=k.tot/\Flat (RepK w W μ) r.sz us r.es
def key1:A->A->Bool
 | .str _,.str _=>true
 | .int k _,.int k' _=>k==k'
 | .bool _,.bool _=>true
 |_,_=>false
def keyL:List A->List A->Bool
 |[],[]=>true
 |z::zs,c::cs=>key1 z c&&keyL zs cs
 |_,_=>false
def pW:A->A->Bool
 | .agg zs,.agg cs=>keyL zs cs
 |z,c=>key1 z c
def RepY(w:World)(W:Nat->Prop)(v:Value):A->Prop
 | .agg H=>∃vs:List Value,v=.agg vs.toArray/\vs.length=H.length/\∀(i:Nat) (u:Value) (a:A),vs[i]? =some u->H[i]? =some a->RepC w W u a
 |a=>RepC w W v a
def RepX(w:World)(W:Nat->Prop)(O:Bool)(v:Value)(H:List A):Prop:=
 if O=true then∃vs:List Value,v=.agg vs.toArray/\vs.length=H.length/\∀(i:Nat) (u:Value) (a:A),vs[i]? =some u->H[i]? =some a->RepC w W u a
 else∃a,H=[a]/\RepC w W v a
def sV(w:World)(W:Nat->Prop)(z:List A)(i:Nat)(e:MapEntry)(c:List A):Prop:=
 e.born=i/\∃k H O,c=k::H/\z=[z.headD .any,.bool O]/\pW (z.headD .any) k=true/\RepY w W e.key k/\RepX w W O e.val H
def zA(w:World)(W:Nat->Prop)(r:Row)(k:Blk):Prop:=
 (r.ro=false->W k.b)/\k.sz=r.sz/\r.sz=0/\
  ∃es:Array MapEntry,w.heap[k.b]? =some (.map es es.size)/\es.size=r.es.length/\∀(i:Nat) (e:MapEntry) (c:List A),es[i]? =some e->r.es[i]? =some c->sV w W r.z i e c
def iE(i:Nat):List A:=[.int .i64 (i:Nat)]
def ItOk(w:World)(W:Nat->Prop)(μ:Nat->Loc)(r:Row)(k:Blk):Prop:=
 (r.ro=false->W k.b)/\k.sz=r.sz/\r.sz=0/\r.z=[]/\
  ∃(y b c:Nat) (H:List Nat),r.es=[.mp y,.int .i64 c]::H.map iE/\RepP w W μ (.map (some b)) (.mp y)/\w.heap[k.b]? =some (.mapIter (some b) c H.toArray c)
def qG(w:World)(W:Nat->Prop)(μ:Nat->Loc)(r:Row)(k:Blk):Prop:=uX w W μ r k\/zA w W r k\/ItOk w W μ r k
def qG.ok{w:World}{W:Nat->Prop}{μ:Nat->Loc}{r:Row}{k:Blk}(h:qG w W μ r k)(U:0<k.sz):uX w W μ r k:=by
 rcases h with h|⟨_,H,O,_⟩|⟨_,H,O,_⟩
 .exact h
 .omega
 .omega
def qG.any{w:World}{W:Nat->Prop}{μ:Nat->Loc}{r:Row}{k:Blk}(h:qG w W μ r k)(H:k.sz=0):zA w W r k\/ItOk w W μ r k:=by
 rcases h with⟨_,O,U,_⟩|h
 .omega
 .exact h
inductive MS where
 |fresh
 |dead
 |row (r:Row)
def qN(w:World)(W:Nat->Prop)(μ:Nat->Loc)(x:Nat):MS->Prop
 | .fresh=>μ x=.fresh
 | .dead=>μ x=.dead
 | .row r=>(μ x=.empty/\r.es=[]/\0<r.sz)\/∃k,μ x=.at_ k/\qG w W μ r k
def rI(w:World)(W:Nat->Prop)(μ:Nat->Loc)(m:Nat->MS):Prop:=∀x,qN w W μ x (m x)
abbrev o5:=List (Nat×List A)
def zB(w:World)(W:Nat->Prop)(G:o5):Prop:=
 ∀g H,(g,H)∈G->¬W g/\g<w.heap.size/\∀(j:Nat) (a:A),H[j]? =some a->∃u,w.cell? ⟨g,j,none⟩=some u/\RepC w W u a
structure Keeps (D:Nat->Prop) (w w':World):Prop where
 os:w'.os=w.os
 tape:w'.tape=w.tape
 output:w'.output=w.output
 drawn:w.drawn<=w'.drawn
 size:w.heap.size<=w'.heap.size
 block:∀b,b<w.heap.size->¬D b->w'.heap[b]? =w.heap[b]?
def Keeps.refl(D:Nat->Prop)(w:World):Keeps D w w:=⟨rfl,rfl,rfl,dG _,dG _,λ _ _ _=>rfl⟩
def Keeps.trans{D H:Nat->Prop}{a b c:World}(h:Keeps D a b)(k:Keeps H b c)(U:∀x,x<a.heap.size->H x->D x):Keeps D a c:=
 ⟨k.os.trans h.os,k.tape.trans h.tape,k.output.trans h.output,dI h.drawn k.drawn,dI h.size k.size,λ x K O=>
  (k.block x (eK K h.size) (λ Y=>O (U x K Y))).trans (h.block x K O)⟩
def Keeps.mono{D H:Nat->Prop}{a b:World}(h:Keeps D a b)(O:∀x,x<a.heap.size->D x->H x):Keeps H a b:=
 ⟨h.os,h.tape,h.output,h.drawn,h.size,λ x K U=>h.block x K (λ Y=>U (O x K Y))⟩
def RepC.keep{D:Nat->Prop}{w w':World}{W W':Nat->Prop}(F:Keeps D w w')(M:∀b,b<w.heap.size->¬W b->¬D b)(V:∀b,b<w.heap.size->¬W b->¬W' b)
  {v:Value} {a:A} (h:RepC w W v a):RepC w' W' v a:=by
 induction h with
 |bool b=>exact .bool b
 |int k n=>exact .int k n
 |str s=>exact .str s
 |fn f=>exact .fn f
 |nf=>exact .nf
 |sl0 a H=>exact .sl0 a H
 |sl b Y H sz es us hb K Z O B L hc hr U=>refine .sl b Y H sz es us (V b K hb) (eK K F.size) Z O B L (λ q u h1=>?_) U;rw[World.cell?_of_block (w:=w) (F.block b K (M b K hb))];exact hc q u h1
 |full a n es h U=>exact .full a n es U
 |bnd f us cs hl hr U=>exact .bnd f us cs hl U
def RepC.oneCell{w:World}{W:Nat->Prop}{v:Value}{a:A}(h:RepC w W v a):v.oneCell'=true:=by cases h<;>rfl
def RepP.oneCell{w:World}{W:Nat->Prop}{μ:Nat->Loc}{v:Value}{a:A}(h:RepP w W μ v a):v.oneCell'=true:=by cases a<;>simp only[RepP]at h<;>first|exact RepC.oneCell h|exact h.1|(obtain⟨b,o,rfl,_⟩:=h;rfl)
def A.noClo:A->Bool
 | .clo _ _=>false
 |_=>true
def RepK.toP{w:World}{W:Nat->Prop}{μ:Nat->Loc}{v:Value}{a:A}(h:RepK w W μ v a)(H:a.noClo=true):RepP w W μ v a:=by cases a<;>first|exact h|cases H
def RepP.toK{w:World}{W:Nat->Prop}{μ:Nat->Loc}{v:Value}{a:A}(h:RepP w W μ v a):RepK w W μ v a:=by
 cases a with
 |clo f H=>
  have O:RepC w W v (.clo f H):=h;cases O
  .exact .inl ⟨[],rfl,rfl,λ i u a h=>by simp at h⟩
  .exact .inr ⟨rfl,rfl,rfl⟩
 |_=>exact h
def RepK.oneCell{w:World}{W:Nat->Prop}{μ:Nat->Loc}{v:Value}{a:A}(h:RepK w W μ v a):v.oneCell'=true:=by
 cases a with
 |clo f H=>rcases h with⟨vs,rfl,_⟩|⟨rfl,_⟩<;>rfl
 |_=>exact(h.toP rfl).oneCell
def Old(μ μ':Nat->Loc):Prop:=∀x,μ x≠.fresh->μ' x=μ x\/μ' x=.dead
def Old.refl(μ:Nat->Loc):Old μ μ:=λ _ _=>.inl rfl
def RepP.goes{D:Nat->Prop}{w w':World}{W W':Nat->Prop}{μ μ':Nat->Loc}(Y:Keeps D w w')(B:∀b,b<w.heap.size->¬W b->¬D b)
  (F:∀b,b<w.heap.size->¬W b->¬W' b) {v:Value} {a:A} (U:Old μ μ') (h:RepP w W μ v a):RepP w' W' μ' v a:=by
 cases a with
 |own x lo n=>
  refine⟨h.1,?_⟩;have H:=h.2
  by_cases O:μ x=.fresh
  .rw[O]at H;exact H.elim
  .rcases U x O with e|e
   .rw[e];exact H
   .rw[e];trivial
 |ptr x i j=>
  refine⟨h.1,?_⟩;have H:=h.2
  by_cases O:μ x=.fresh
  .rw[O]at H;exact H.elim
  .rcases U x O with e|e
   .rw[e];exact H
   .rw[e];trivial
 |mp x=>
  refine⟨h.1,?_⟩;have H:=h.2
  by_cases O:μ x=.fresh
  .rw[O]at H;exact H.elim
  .rcases U x O with e|e
   .rw[e];exact H
   .rw[e];trivial
 |it x=>
  refine⟨h.1,?_⟩;have H:=h.2
  by_cases O:μ x=.fresh
  .rw[O]at H;exact H.elim
  .rcases U x O with e|e
   .rw[e];exact H
   .rw[e];trivial
 |rd cs M=>obtain⟨b,o,L,hb,K,V⟩:=h;refine⟨b,o,L,F b K hb,eK K Y.size,λ j a Z=>?_⟩;obtain⟨u,hu,hr⟩:=V j a Z;exact⟨u,(World.cell?_of_block (w:=w) (Y.block b K (B b K hb))).trans hu,hr.keep Y B F⟩
 |_=>exact RepC.keep Y B F h
def RepK.goes{D:Nat->Prop}{w w':World}{W W':Nat->Prop}{μ μ':Nat->Loc}(O:Keeps D w w')(U:∀b,b<w.heap.size->¬W b->¬D b)
  (Y:∀b,b<w.heap.size->¬W b->¬W' b) {v:Value} {a:A} (H:Old μ μ') (h:RepK w W μ v a):RepK w' W' μ' v a:=by
 cases a with
 |clo f cs=>exact h.imp (λ⟨vs,K,L,B⟩=>⟨vs,K,L,λ i u a F M=>(B i u a F M).goes O U Y H⟩) id
 |_=>exact((h.toP rfl).goes O U Y H).toK
def RepV.goes{D:Nat->Prop}{w w':World}{W W':Nat->Prop}{μ μ':Nat->Loc}(O:Keeps D w w')(U:∀b,b<w.heap.size->¬W b->¬D b)
  (Y:∀b,b<w.heap.size->¬W b->¬W' b) {v:Value} {a:A} (H:Old μ μ') (h:RepV w W μ v a):RepV w' W' μ' v a:=by
 cases a with
 |agg B=>obtain⟨vs,K,L,M⟩:=h;exact⟨vs,K,L,λ i u a V Z=>(M i u a V Z).goes O U Y H⟩
 |clo f B=>exact RepK.goes (a:=.clo f B) O U Y H h
 |bnd f B=>exact RepK.goes (a:=.bnd f B) O U Y H h
 |bool b=>exact RepK.goes (a:=.bool b) O U Y H h
 |int k n=>exact RepK.goes (a:=.int k n) O U Y H h
 |str s=>exact RepK.goes (a:=.str s) O U Y H h
 |sl es=>exact RepK.goes (a:=.sl es) O U Y H h
 |full es=>exact RepK.goes (a:=.full es) O U Y H h
 |own x lo n=>exact RepK.goes (a:=.own x lo n) O U Y H h
 |ptr x i j=>exact RepK.goes (a:=.ptr x i j) O U Y H h
 |mp x=>exact RepK.goes (a:=.mp x) O U Y H h
 |it x=>exact RepK.goes (a:=.it x) O U Y H h
 |rd B F=>exact RepK.goes (a:=.rd B F) O U Y H h
 |tup vs=>exact RepK.goes (a:=.tup vs) O U Y H h
 |cnd g a=>exact RepK.goes (a:=.cnd g a) O U Y H h
 |any=>exact RepK.goes (a:=.any) O U Y H h
def Rep.goes{D:Nat->Prop}{w w':World}{W W':Nat->Prop}{μ μ':Nat->Loc}(O:Keeps D w w')(U:∀b,b<w.heap.size->¬W b->¬D b)
  (Y:∀b,b<w.heap.size->¬W b->¬W' b) {v:Value} {a:A} (H:Old μ μ') (h:Rep w W μ v a):Rep w' W' μ' v a:=by
 cases a with
 |any=>trivial
 |tup as=>obtain⟨vs,K,L,M⟩:=h;exact⟨vs,K,L,λ i u a V Z=>(M i u a V Z).goes O U Y H⟩
 |cnd g a=>exact⟨λ hg=>(h.1 hg).goes O U Y H,h.2⟩
 |bool b=>exact RepV.goes (a:=.bool b) O U Y H h
 |int k n=>exact RepV.goes (a:=.int k n) O U Y H h
 |str s=>exact RepV.goes (a:=.str s) O U Y H h
 |sl es=>exact RepV.goes (a:=.sl es) O U Y H h
 |full es=>exact RepV.goes (a:=.full es) O U Y H h
 |own x lo n=>exact RepV.goes (a:=.own x lo n) O U Y H h
 |ptr x i j=>exact RepV.goes (a:=.ptr x i j) O U Y H h
 |mp x=>exact RepV.goes (a:=.mp x) O U Y H h
 |it x=>exact RepV.goes (a:=.it x) O U Y H h
 |rd B F=>exact RepV.goes (a:=.rd B F) O U Y H h
 |agg B=>exact RepV.goes (a:=.agg B) O U Y H h
 |clo f B=>exact RepV.goes (a:=.clo f B) O U Y H h
 |bnd f B=>exact RepV.goes (a:=.bnd f B) O U Y H h
def Flat.mono{R H:Value->A->Prop}{sz:Nat}{us:List Value}{es:List (List A)}(h:Flat R sz us es)(O:∀u a,R u a->H u a):Flat H sz us es:=
 ⟨h.hl,h.hs,λ i c j a U Y=>let⟨u,B,F⟩:=h.ha i c j a U Y;⟨u,B,O u a F⟩⟩
def Flat.nil(R:Value->A->Prop)(sz:Nat):Flat R sz [] []:=⟨by simp,by simp,by simp⟩
def Flat.one{R:Value->A->Prop}{us:List Value}{c:List A}(K:us.length=c.length)(U:∀(i:Nat) (u:Value) (a:A),us[i]? =some u->c[i]? =some a->R u a):
  Flat R c.length us [c]:=by
 refine⟨by simp[K],λ i d h=>?_,λ i d j a h H=>?_⟩
 .cases i with
  |zero=>simp at h;rw[h]
  |succ i=>simp at h
 .cases i with
  |zero=>
   simp at h;subst h;have O:j<us.length:=by rw[K];exact(cK.1 H).1
   exact⟨us[j],by simp[O],U j _ a (by simp[O]) H⟩
  |succ i=>simp at h
def Flat.append{R:Value->A->Prop}{sz:Nat}{us vs:List Value}{es Y:List (List A)}(h:Flat R sz us es)(k:Flat R sz vs Y):Flat R sz (us++vs) (es++Y):=by
 refine⟨by simp[h.hl,k.hl,eD],λ i c H=>?_,λ i c j a H K=>?_⟩
 .rw[gB]at H;split at H
  .exact h.hs i c H
  .exact k.hs _ c H
 .rw[gB]at H;split at H
  .rename_i L;obtain⟨u,O,U⟩:=h.ha i c j a H K;refine⟨u,?_,U⟩;rw[dX (cK.1 O).1,O]
  .rename_i L;obtain⟨u,O,U⟩:=k.ha _ c j a H K;refine⟨u,?_,U⟩;have e:i*sz+j=us.length+((i-es.length)*sz+j):=by
    rw[h.hl,<-gF,<-eD];congr 2;omega
   rw[e,fH om];rw[show us.length+((i-es.length)*sz+j)-us.length=(i-es.length)*sz+j by omega,O]
def Flat.take{R:Value->A->Prop}{sz:Nat}{us:List Value}{es:List (List A)}(h:Flat R sz us es)(n:Nat):Flat R sz (us.take (n*sz)) (es.take n):=by
 refine⟨by simp only[dE,h.hl,Nat.mul_min_mul_right],λ i c H=>?_,λ i c j a H K=>?_⟩
 .rw[eA]at H;split at H
  .exact h.hs i c H
  .cases H
 .rw[eA]at H;split at H
  .rename_i L;obtain⟨u,O,U⟩:=h.ha i c j a H K;refine⟨u,?_,U⟩;have Y:j<sz:=by rw[<-h.hs i c H];exact(cK.1 K).1
   have:i*sz+j<n*sz:=by have:(i+1)*sz<=n*sz:=dU _ L;rw[eD]at this;omega
   rw[eA,cB this,O]
  .cases H
def Flat.drop{R:Value->A->Prop}{sz:Nat}{us:List Value}{es:List (List A)}(h:Flat R sz us es)(n:Nat):Flat R sz (us.drop (n*sz)) (es.drop n):=by
 refine⟨by simp only[dC,h.hl];rw[Nat.sub_mul],λ i c H=>?_,λ i c j a H K=>?_⟩
 .rw[eG]at H;exact h.hs _ c H
 .rw[eG]at H;obtain⟨u,O,U⟩:=h.ha _ c j a H K;refine⟨u,?_,U⟩;rw[eG,<-O];congr 1;rw[eD];omega
def Flat.set{R:Value->A->Prop}{sz:Nat}{us vs:List Value}{es:List (List A)}{c:List A}(h:Flat R sz us es)(n:Nat)(H:n<es.length)(k:Flat R sz vs [c]):
  Flat R sz (us.take (n*sz)++vs++us.drop ((n+1)*sz)) (es.set n c):=by
 have O:=((h.take n).append k).append (h.drop (n+1));have e:es.set n c=es.take n++[c]++es.drop (n+1):=by rw[jK,cB H];simp
 rw[e];exact O
def Flat.split{R:Value->A->Prop}{sz:Nat}{us:List Value}{es:List (List A)}(h:Flat R sz us es){i:Nat}{c:List A}(H:es[i]? =some c):
  Flat R sz ((us.drop (i*sz)).take sz) [c]:=by
 have O:=((h.drop i).take 1);have e:(es.drop i).take 1=[c]:=by have K:=(cK.1 H).1;rw[gL K];have:=(cK.1 H).2;simp[this]
 rw[e]at O
 simpa using O
def Flat.upd{R:Value->A->Prop}{us vs:List Value}{c d:List A}(h:Flat R c.length us [c])(hl:vs.length=d.length)(M:∀(i:Nat) (u:Value) (a:A),vs[i]? =some u->d[i]? =some a->R u a)
  (j:Nat) (hj:j+d.length<=c.length):Flat R c.length (us.take j++vs++us.drop (j+vs.length)) [c.take j++d++c.drop (j+d.length)]:=by
 have L:us.length=c.length:=by simpa using h.hl
 have F:∀(i:Nat) (u:Value) (a:A),us[i]? =some u->c[i]? =some a->R u a:=by intro i u a H K;obtain⟨u',O,Y⟩:=h.ha 0 c i a (by simp) K;simp only[kB,eC]at O;rw[H]at O;cases O;exact Y
 have V:(c.take j++d++c.drop (j+d.length)).length=c.length:=by simp;omega
 have:=Flat.one (R:=R) (us:=us.take j++vs++us.drop (j+vs.length)) (c:=c.take j++d++c.drop (j+d.length)) (by simp[L,hl]) (by
  intro i u a H K;rw[cG,gB]at H K;rw[dE,L]at H;rw[dE]at K;split at H
  .rename_i Z;rw[cB Z]at K;rw[eA]at H K;split at H
   .rename_i B;rw[cB B]at K;exact F i u a H K
   .cases H
  .rename_i Z;rw[bX Z]at K;rw[gB]at H K;rw[hl]at H;split at H
   .rename_i U;rw[cB U]at K;exact M _ u a H K
   .rename_i U;rw[bX U]at K;rw[eG]at H K;exact F _ u a H K)
 rwa [V]at this
def sub(H:List A)(off n:Nat):List A:=(H.drop off).take n
def upd(H:List A)(off:Nat)(new:List A):List A:=H.take off++new++H.drop (off+new.length)
def pF(n:Nat)(es:List (List A)):Prop:=∀c∈es,c.length=n
def A.cells:A->List A
 | .agg H=>H
 |a=>[a]
def A.isV:A->Bool
 | .bool _|.int _ _|.str _|.sl _|.full _|.own _ _ _|.ptr _ _ _|.agg _=>true
 | .clo _ _|.bnd _ _=>true
 |_=>false
def tV(O:Bool)(H:List A):A:=if O then .agg H else H.headD .any
inductive LK where
 |b
 |i (k:IntKind)
 |s
 deriving DecidableEq
def LK.fits:LK->A->Bool
 | .b,.bool _=>true
 | .i k,.int k' _=>k==k'
 | .s,.str _=>true
 |_,_=>false
def mU:List LK->List A->Bool
 |[],[]=>true
 |k::ks,a::as=>k.fits a&&mU ks as
 |_,_=>false
def eq1:A->A->Bool
 | .bool a,.bool b=>a==b
 | .int _ a,.int _ b=>a==b
 | .str a,.str b=>a.toList==b.toList
 |_,_=>false
def eqA:List A->List A->Bool
 |a::as,b::bs=>eq1 a b&&eqA as bs
 |_,_=>true
def oV(i n:Nat):Nat:=if i<n then i else n-1
def oD(H:BinOp)(k:IntKind)(x y:Int):Int:=
 match H with
 | .and=>k.wrap (BitVec.ofInt k.bits x&&&BitVec.ofInt k.bits y).toNat
 | .or=>k.wrap (BitVec.ofInt k.bits x|||BitVec.ofInt k.bits y).toNat
 | .xor=>k.wrap (BitVec.ofInt k.bits x^^^BitVec.ofInt k.bits y).toNat
 | .andNot=>k.wrap (BitVec.ofInt k.bits x&&& ~~~(BitVec.ofInt k.bits y)).toNat
 |_=>0
inductive PO where
 |mv
 |nilown (sz:Nat) (z:List A)
 |pick
 |box (n:Nat)
 |alloc (n:Nat) (z:List A)
 |build (z:List A) (ps:List (Nat×Nat))
 |bslice (sz:Nat) (z:List A)
 |bown (sz:Nat) (z:List A)
 |load (n:Nat) (ag:Bool)
 |store (n:Nat)
 |bin (op:BinOp)
 |eqb (neg:Bool)
 |eqa (neg:Bool) (ks:List LK)
 |not
 |neg
 |field (off n:Nat) (ag:Bool)
 |faddr (off:Nat)
 |iaA (n sz:Nat)
 |iaS (sz:Nat) (z:List A)
 |idxA (n sz:Nat) (ag:Bool)
 |idxS
 |slc (sz:Nat) (lo hi mx:Bool)
 |slcS (lo hi:Bool)
 |ext (i:Nat)
 |len
 |lenS
 |append (sz bytes:Nat) (z:List A)
 |appc (sz bytes:Nat)
 |apl (sz bytes:Nat)
 |copy (sz:Nat)
 |clear (sz:Nat) (z:List A)
 |mk (sz bytes:Nat) (z:List A)
 |conv (k:IntKind)
 |cvS
 |cvB
 |eqNil
 |min
 |max
 |nilck
 |call (f:FuncId)
 |callv
 |callb
 |callm (f:FuncId)
 |callvm
 |mkf (f:FuncId)
 |mkb (f:FuncId)
 |mkmap (z:List A)
 |lkp (ok ag:Bool) (kz:A) (z:List A)
 |mupd (kz:A) (ag:Bool) (n:Nat)
 |lenM
 |rng
 |next(d:List A)
 |entry (d:List A)
inductive PX where
 |t (n:Nat)
 |c (a:A)
 |g (g:Nat)
 |f (f:FuncId)
structure POp where
 dst:Option Nat
 g:Option (Nat×Bool)
 po:PO
 xs:List PX
structure Ef where
 obl:Prop
 v:A
 mw:List (Nat×MS)
def CQ(op:BinOp):A->A->Option (Prop×A)
 | .int k a,.int k' b=>
  match op with
  | .shl=>some (0<=b,.int k (k.wrap (a*2^(Nat.min b.toNat k.bits))))
  | .shr=>some (0<=b,.int k (a.fdiv (2^(Nat.min b.toNat k.bits))))
  |op=>if k=k' then
    match op with
    | .add=>some (True,.int k (k.wrap (a+b)))
    | .sub=>some (True,.int k (k.wrap (a-b)))
    | .mul=>some (True,.int k (k.wrap (a*b)))
    | .quo=>some (b≠0,.int k (k.wrap (a.tdiv b)))
    | .rem=>some (b≠0,.int k (a.tmod b))
    | .eql=>some (True,.bool (decide (a=b)))
    | .neq=>some (True,.bool (!decide (a=b)))
    | .lss=>some (True,.bool (decide (a<b)))
    | .leq=>some (True,.bool (decide (a<=b)))
    | .gtr=>some (True,.bool (decide (b<a)))
    | .geq=>some (True,.bool (decide (b<=a)))
    | .and=>some (True,.int k (oD .and k a b))
    | .or=>some (True,.int k (oD .or k a b))
    | .xor=>some (True,.int k (oD .xor k a b))
    | .andNot=>some (True,.int k (oD .andNot k a b))
    |_=>none
   else none
 | .str a,.str b=>
  match op with
  | .add=>some (((a.size+b.size:Nat):Int)<=IntKind.i64.max,.str (a++b))
  | .eql=>some (True,.bool (a.toList==b.toList))
  | .neq=>some (True,.bool (!(a.toList==b.toList)))
  | .lss=>some (True,.bool (Op.bytesLess a.toList b.toList))
  | .leq=>some (True,.bool (Op.bytesLess a.toList b.toList||a.toList==b.toList))
  | .gtr=>some (True,.bool (!(Op.bytesLess a.toList b.toList||a.toList==b.toList)))
  | .geq=>some (True,.bool (!Op.bytesLess a.toList b.toList))
  |_=>none
 |_,_=>none
def sL(m:Nat->MS):A->Option (List (List A))
 | .sl es=>some es
 | .full es=>some es
 | .own x lo n=>match m x with
  | .row r=>some ((r.es.drop lo).take n)
  |_=>none
 | .str s=>some (s.toList.map λ b=>[A.int .u8 b.toNat])
 |_=>none
def tW(m:Nat->MS):A->Prop
 | .own x lo n=>match m x with
  | .row r=>lo+n<=r.es.length
  |_=>False
 |_=>True
def rU(m:Nat->MS)(sz:Nat)(x:A)(lo hi:Option Int)(mx:Option Int):Option (Prop×A):=
 match x,mx with
 | .sl es,none=>some (0<=lo.getD 0/\lo.getD 0<=hi.getD es.length/\hi.getD es.length<=es.length/\pF sz es,.sl ((es.take (hi.getD es.length).toNat).drop (lo.getD 0).toNat))
 | .full es,none=>some (0<=lo.getD 0/\lo.getD 0<=hi.getD es.length/\hi.getD es.length<=es.length/\pF sz es,.sl ((es.take (hi.getD es.length).toNat).drop (lo.getD 0).toNat))
 | .own y l n,none=>match m y with
  | .row r=>some (0<=lo.getD 0/\lo.getD 0<=hi.getD n/\hi.getD n<=n/\r.sz=sz,.own y (l+(lo.getD 0).toNat) ((hi.getD n).toNat-(lo.getD 0).toNat))
  |_=>none
 | .str s,none=>some (0<=lo.getD 0/\lo.getD 0<=hi.getD s.size/\hi.getD s.size<=s.size,.str (s.extract (lo.getD 0).toNat (hi.getD s.size).toNat))
 | .sl es,some m=>match hi with
  |some h=>some (0<=lo.getD 0/\lo.getD 0<=h/\h<=es.length/\h=m/\pF sz es,.full ((es.take h.toNat).drop (lo.getD 0).toNat))
  |none=>none
 | .full es,some m=>match hi with
  |some h=>some (0<=lo.getD 0/\lo.getD 0<=h/\h<=es.length/\h=m/\pF sz es,.full ((es.take h.toNat).drop (lo.getD 0).toNat))
  |none=>none
 | .own y l n,some q=>match hi,m y with
  |some h,.row r=>some (0<=lo.getD 0/\lo.getD 0<=h/\h<=n/\h=q/\r.sz=sz,.own y (l+(lo.getD 0).toNat) (h.toNat-(lo.getD 0).toNat))
  |_,_=>none
 |_,_=>none
def laid:List A->List (Nat×Nat)->List A->List A
 |z,p::ps,x::xs=>laid (upd z p.1 x.cells) ps xs
 |z,_,_=>z
def Fz(n:Nat):List (Nat×Nat)->List A->Prop
 |p::ps,x::xs=>x.isV=true/\x.cells.length=p.2/\p.1+p.2<=n/\Fz n ps xs
 |[],[]=>True
 |_,_=>False
def allV:List A->Bool
 |[]=>true
 |x::xs=>x.isV&&allV xs
def pB:List A->List (List A)
 |[]=>[]
 |x::xs=>x.cells::pB xs
def A.isStr:A->Bool
 | .str _=>true
 |_=>false
def A.isK:A->Bool
 | .bool _|.int _ _|.str _|.sl _|.full _|.own _ _ _|.ptr _ _ _=>true
 | .clo _ []|.bnd _ _=>true
 |_=>false
def allK:List A->Bool
 |[]=>true
 |x::xs=>x.isK&&allK xs
def A.pure1:A->Bool
 | .bool _|.int _ _|.str _|.sl _|.full _|.clo _ []|.bnd _ _|.agg _=>true
 |_=>false
def o8:List A->Bool
 |[]=>true
 |c::cs=>c.pure1&&o8 cs
def tX(es:List (List A)):Prop:=∀c∈es,∀a∈c,A.pure1 a=true
def u8s:List (List A)->Option (List Int)
 |[]=>some []
 |[.int .u8 n]::cs=>(u8s cs).map (n::·)
 |_=>none
def tY(l:List Int):ByteArray:=⟨(l.map λ n=>UInt8.ofNat n.toNat).toArray⟩
def eqK:A->A->Bool
 | .agg a,.agg b=>eqA a b
 |a,b=>eq1 a b
def rJ(k:A):List (List A)->Option (List A)
 |[]=>none
 |c::es=>bif eqK k (c.headD .any)then some c.tail else rJ k es
def mins(k:A)(v:List A):List (List A)->List (List A)
 |[]=>[k::v]
 |c::es=>bif eqK k (c.headD .any)then(k::v)::es else c::mins k v es
def FA(es:List (List A)):Option (Nat×Nat):=match es.head?,es.tail.getLast? with
 |some [.mp y,.int _ _],some [.int _ i]=>some (y,i.toNat)
 |_,_=>none
def mEnt(z:List A)(c:List A):List A:=[c.headD .any,tV (match z.getD 1 .any with|.bool H=>H|_=>false) c.tail]
def mval(H:Bool)(z:List A)(o:Option (List A)):A:=tV H (o.getD z)
def A.isAg:A->Bool
 | .agg _=>true
 |_=>false
def ev(id:Nat)(m:Nat->MS):PO->List A->Option Ef
 | .mv,[x]=>some ⟨True,x,[]⟩
 | .nilown sz z,[_]=>some ⟨0<sz,.own id 0 0,[(id,.row ⟨false,sz,z,[]⟩)]⟩
 | .box n,[x]=>some ⟨x.isV=true/\0<n/\x.cells.length=n,.ptr id 0 0,[(id,.row ⟨false,n,x.cells,[x.cells]⟩)]⟩
 | .alloc n z,[]=>some ⟨0<n/\z.length=n,.ptr id 0 0,[(id,.row ⟨false,n,z,[z]⟩)]⟩
 | .build z ps,xs=>some ⟨Fz z.length ps xs,.agg (laid z ps xs),[]⟩
 | .bslice sz _,xs=>some ⟨0<sz/\allV xs=true/\pF sz (pB xs)/\tX (pB xs)/\xs.length*sz<=16777216,.full (pB xs),[]⟩
 | .bown sz z,xs=>some ⟨0<sz/\allV xs=true/\pF sz (pB xs)/\xs.length*sz<=16777216,.own id 0 xs.length,[(id,.row ⟨false,sz,z,pB xs⟩)]⟩
 | .load n ag,[x]=>
  match x with
  | .ptr y i j=>match m y with
   | .row r=>some ⟨i<r.es.length/\j+n<=r.sz,tV ag (sub (r.es.getD i r.z) j n),[]⟩
   |_=>none
  | .rd O H=>some ⟨H+n<=O.length,tV ag (sub O H n),[]⟩
  |_=>none
 | .store n,[p,x]=>
  match p with
  | .ptr y i j=>match m y with
   | .row r=>some ⟨r.ro=false/\x.isV=true/\i<r.es.length/\j+n<=r.sz/\x.cells.length=n,.any,
     [(y,.row ⟨r.ro,r.sz,r.z,r.es.set i (upd (r.es.getD i r.z) j x.cells)⟩)]⟩
   |_=>none
  |_=>none
 | .bin op,[x,y]=>(CQ op x y).map λ q=>⟨q.1,q.2,[]⟩
 | .eqb neg,[.bool x,.bool y]=>some ⟨True,.bool (if neg then !decide (x=y)else decide (x=y)),[]⟩
 | .eqa neg ks,[.agg xs,.agg ys]=>some ⟨mU ks xs=true/\mU ks ys=true,.bool (if neg then !eqA xs ys else eqA xs ys),[]⟩
 | .not,[.bool x]=>some ⟨True,.bool (!x),[]⟩
 | .neg,[.int k n]=>some ⟨True,.int k (k.wrap (0-n)),[]⟩
 | .field H n ag,[.agg O]=>some ⟨H+n<=O.length,tV ag (sub O H n),[]⟩
 | .faddr H,[x]=>
  match x with
  | .ptr y i j=>match m y with
   | .row _=>some ⟨True,.ptr y i (j+H),[]⟩
   |_=>none
  | .rd O o=>some ⟨True,.rd O (o+H),[]⟩
  |_=>none
 | .iaA n sz,[x,.int _ k]=>
  match x with
  | .ptr y i j=>match m y with
   | .row _=>some ⟨0<=k/\k<n,.ptr y i (j+oV k.toNat n*sz),[]⟩
   |_=>none
  | .rd O o=>some ⟨0<=k/\k<n,.rd O (o+oV k.toNat n*sz),[]⟩
  |_=>none
 | .iaS sz z,[x,.int _ k]=>
  match x with
  | .sl es=>some ⟨0<=k/\k<es.length/\(es.getD k.toNat z).length=sz,.rd (es.getD k.toNat z) 0,[]⟩
  | .full es=>some ⟨0<=k/\k<es.length/\(es.getD k.toNat z).length=sz,.rd (es.getD k.toNat z) 0,[]⟩
  | .own y lo n=>match m y with
   | .row r=>some ⟨0<=k/\k<n/\r.sz=sz,.ptr y (lo+k.toNat) 0,[]⟩
   |_=>none
  |_=>none
 | .idxA n sz ag,[.agg O,.int _ k]=>some ⟨0<=k/\k<n/\n*sz=O.length,tV ag (sub O (oV k.toNat n*sz) sz),[]⟩
 | .idxS,[.str s,.int _ k]=>some ⟨0<=k/\k<s.size,.int .u8 (s.toList.getD k.toNat 0).toNat,[]⟩
 | .slc sz false false false,[x]=>if x.isStr then none else(rU m sz x none none none).map λ q=>⟨q.1,q.2,[]⟩
 | .slc sz true false false,[x,.int _ l]=>if x.isStr then none else(rU m sz x (some l) none none).map λ q=>⟨q.1,q.2,[]⟩
 | .slc sz false true false,[x,.int _ h]=>if x.isStr then none else(rU m sz x none (some h) none).map λ q=>⟨q.1,q.2,[]⟩
 | .slc sz true true false,[x,.int _ l,.int _ h]=>if x.isStr then none else(rU m sz x (some l) (some h) none).map λ q=>⟨q.1,q.2,[]⟩
 | .slc sz false true true,[x,.int _ h,.int _ c]=>if x.isStr then none else(rU m sz x none (some h) (some c)).map λ q=>⟨q.1,q.2,[]⟩
 | .slc sz true true true,[x,.int _ l,.int _ h,.int _ c]=>if x.isStr then none else(rU m sz x (some l) (some h) (some c)).map λ q=>⟨q.1,q.2,[]⟩
 | .slcS false false,[.str s]=>(rU m 0 (.str s) none none none).map λ q=>⟨q.1,q.2,[]⟩
 | .slcS true false,[.str s,.int _ l]=>(rU m 0 (.str s) (some l) none none).map λ q=>⟨q.1,q.2,[]⟩
 | .slcS false true,[.str s,.int _ h]=>(rU m 0 (.str s) none (some h) none).map λ q=>⟨q.1,q.2,[]⟩
 | .slcS true true,[.str s,.int _ l,.int _ h]=>(rU m 0 (.str s) (some l) (some h) none).map λ q=>⟨q.1,q.2,[]⟩
 | .ext i,[.tup vs]=>some ⟨i<vs.length,vs.getD i .any,[]⟩
 | .len,[x]=>
  match x with
  | .sl es=>some ⟨True,.int .i64 es.length,[]⟩
  | .full es=>some ⟨True,.int .i64 es.length,[]⟩
  | .own y _ n=>match m y with
   | .row _=>some ⟨True,.int .i64 n,[]⟩
   |_=>none
  |_=>none
 | .lenS,[.str s]=>some ⟨True,.int .i64 s.size,[]⟩
 | .append sz bytes z,[b,x]=>
  (sL m x).bind λ new=>
  match b with
  | .full es=>some ⟨0<sz/\(es=[]\/new≠[])/\pF sz es/\tW m x/\pF sz new/\(es.length+new.length)*bytes<=140737488355328/\es.length+new.length<=maxLen,.own id 0 (es.length+new.length),[(id,.row ⟨false,sz,z,es++new⟩)]⟩
  | .own y lo n=>match m y with
   | .row r=>some ⟨r.ro=false/\lo=0/\n=r.es.length/\r.sz=sz/\tW m x/\pF sz new/\(n+new.length)*bytes<=140737488355328/\n+new.length<=maxLen,
     .own id 0 (n+new.length),[(y,.dead),(id,.row ⟨false,sz,r.z,r.es++new⟩)]⟩
   |_=>none
  |_=>none
 | .appc sz bytes,[b,x]=>
  (sL m x).bind λ new=>
  match b with
  | .own y lo n=>match m y with
   | .row r=>some ⟨r.ro=false/\lo=0/\n<=r.es.length/\r.sz=sz/\tW m x/\pF sz new/\(n+new.length)*bytes<=140737488355328/\n+new.length<=maxLen,
     .own id 0 (n+new.length),[(y,.dead),(id,.row ⟨false,sz,r.z,r.es.take n++new⟩)]⟩
   |_=>none
  |_=>none
 | .apl sz bytes,[.full es0,.sl es]=>some ⟨0<sz/\es0=[]/\pF sz es/\es.length*bytes<=140737488355328/\es.length<=maxLen,.sl es,[]⟩
 | .copy sz,[d,x]=>
  (sL m x).bind λ new=>
  match d with
  | .own y lo n=>match m y with
   | .row r=>some ⟨r.ro=false/\r.sz=sz/\lo+n<=r.es.length/\tW m x/\pF sz new,.int .i64 (Nat.min new.length n),
     [(y,.row ⟨false,sz,r.z,r.es.take lo++new.take n++r.es.drop (lo+Nat.min new.length n)⟩)]⟩
   |_=>none
  |_=>none
 | .clear sz z,[d]=>
  match d with
  | .own y lo n=>match m y with
   | .row r=>some ⟨r.ro=false/\r.sz=sz/\lo+n<=r.es.length,.any,[(y,.row ⟨false,sz,r.z,r.es.take lo++List.replicate n z++r.es.drop (lo+n)⟩)]⟩
   |_=>none
  |_=>none
 | .mk sz bytes z,[.int _ l,.int _ c]=>
  some ⟨0<sz/\z.length=sz/\0<=l/\l<=c/\c*bytes<=140737488355328/\c<=maxLen,.own id 0 l.toNat,[(id,.row ⟨false,sz,z,List.replicate l.toNat z⟩)]⟩
 | .conv k,[.int _ n]=>some ⟨True,.int k (k.wrap n),[]⟩
 | .cvS,[x]=>if x.isStr then none else(sL m x).bind λ es=>(u8s es).bind λ l=>some ⟨tW m x,.str (tY l),[]⟩
 | .cvB,[.str s]=>some ⟨s.size<=maxLen,.sl (s.toList.map λ b=>[A.int .u8 b.toNat]),[]⟩
 | .min,[.int k x,.int k' y]=>some ⟨k=k',.int k (if y<x then y else x),[]⟩
 | .max,[.int k x,.int k' y]=>some ⟨k=k',.int k (if x<y then y else x),[]⟩
 | .nilck,[x]=>
  match x with
  | .ptr y _ _=>match m y with
   | .row _=>some ⟨True,x,[]⟩
   |_=>none
  | .rd _ _=>some ⟨True,x,[]⟩
  | .clo f _=>some ⟨(f==yZ)=false,x,[]⟩
  | .bnd _ _=>some ⟨True,x,[]⟩
  |_=>none
 | .mkb f,[.agg O]=>some ⟨o8 O=true,.bnd f O,[]⟩
 | .mkf f,xs=>some ⟨allK xs=true,.clo f xs,[]⟩
 | .mkmap z,[]=>some ⟨True,.mp id,[(id,.row ⟨false,0,z,[]⟩)]⟩
 | .lkp ok ag kz z,[.mp y,k]=>match m y with
  | .row r=>some ⟨r.z=[kz,.bool ag]/\pW kz k=true,if ok then .tup [mval ag z (rJ k r.es),.bool (rJ k r.es).isSome]else mval ag z (rJ k r.es),[]⟩
  |_=>none
 | .mupd kz ag n,[.mp y,k,v]=>match m y with
  | .row r=>some ⟨r.ro=false/\r.z=[kz,.bool ag]/\pW kz k=true/\v.isV=true/\v.isAg=ag/\v.cells.length=n/\tX [v.cells],.any,[(y,.row ⟨false,0,r.z,mins k v.cells r.es⟩)]⟩
  |_=>none
 | .lenM,[.mp y]=>match m y with
  | .row r=>some ⟨r.z≠[],.int .i64 r.es.length,[]⟩
  |_=>none
 | .rng,[.mp y]=>match m y with
  | .row r=>some ⟨r.z≠[],.it id,[(id,.row ⟨false,0,[],[[.mp y,.int .i64 r.es.length]]⟩)]⟩
  |_=>none
 |_,_=>none
structure S where
 fr:Nat->A
 mem:Nat->MS
structure Env where
 w0:World
 Win:Nat->Prop
 Mb:Nat->Prop
 N:Nat
 G:o5
 k0:Nat
 μ0:Nat->Loc
structure SatW (E:Env) (s:S) (a:Act) (w:World) (W:Nat->Prop) (μ:Nat->Loc):Prop where
 defers:a.defers=[]
 size:a.tmps.size=E.N
 fr:∀t,Rep w W μ (a.tmps.getD t undef) (s.fr t)
 mem:rI w W μ s.mem
 inj:∀x y k k',μ x=.at_ k->μ y=.at_ k'->k.b=k'.b->x=y
 keeps:Keeps E.Mb E.w0 w
 winlt:∀b,E.Win b->b<E.w0.heap.size
 wsub:∀b,W b->E.Win b\/E.w0.heap.size<=b
 wsup:∀b,E.Win b->W b\/E.Mb b
 wlt:∀b,W b->b<w.heap.size
 live:∀x k,μ x=.at_ k->E.Mb k.b\/E.w0.heap.size<=k.b
 glob:zB w W E.G
 fix:∀x,x<E.k0->(μ x=E.μ0 x/\μ x≠.fresh)\/μ x=.dead
def Sat(E:Env)(s:S)(a:Act)(w:World):Prop:=∃W μ,SatW E s a w W μ
def setM(m:Nat->MS):List (Nat×MS)->Nat->MS
 |[]=>m
 |q::r=>setM (λ x=>if x=q.1 then q.2 else m x) r
def setF(f:Nat->A)(d:Option Nat)(a:A):Nat->A:=λ t=>if d=some t then a else f t
structure Step (m m':Nat->MS) (w w':World) (W W':Nat->Prop) (μ μ':Nat->Loc):Prop where
 keeps:Keeps (λ b=>W b/\∃y k,μ y=.at_ k/\k.b=b) w w'
 hW:∀b,b<w.heap.size->W' b->W b
 wsup:∀b,W b->W' b\/∃y k,μ y=.at_ k/\k.b=b
 wlt0:∀b,W b->b<w.heap.size
 wlt:∀b,W' b->b<w'.heap.size
 old:Old μ μ'
 mem:rI w' W' μ' m'
 inj:∀x y k k',μ' x=.at_ k->μ' y=.at_ k'->k.b=k'.b->x=y
 live:∀x k,μ' x=.at_ k->(∃y k',μ y=.at_ k'/\k'.b=k.b)\/w.heap.size<=k.b
def Rep.step{m m':Nat->MS}{w w':World}{W W':Nat->Prop}{μ μ':Nat->Loc}(h:Step m m' w w' W W' μ μ'){v:Value}{a:A}(U:Rep w W μ v a):Rep w' W' μ' v a:=
 U.goes h.keeps (λ _ _ H O=>H O.1) (λ b hb H O=>H (h.hW b hb O)) h.old
def RepK.step{m m':Nat->MS}{w w':World}{W W':Nat->Prop}{μ μ':Nat->Loc}(h:Step m m' w w' W W' μ μ'){v:Value}{a:A}(U:RepK w W μ v a):RepK w' W' μ' v a:=
 U.goes h.keeps (λ _ _ H O=>H O.1) (λ b hb H O=>H (h.hW b hb O)) h.old
def XG(a:Act)(d:Option Nat)(v:Value)(t:Nat)(H:∀x,d=some x->x<a.tmps.size):
  (a.put d v).tmps.getD t undef=if d=some t then v else a.tmps.getD t undef:=by
 cases d with
 |none=>simp[Act.put]
 |some x=>
  have K:=H x rfl;simp only[Act.put,cJ]
  by_cases h:x=t
  .subst h;simp[K]
  .simp only[bX h,gE,iM h]
def SatW.step{E:Env}{s:S}{a:Act}{w w':World}{W W':Nat->Prop}{μ μ':Nat->Loc}(H:SatW E s a w W μ){m':Nat->MS}(h:Step s.mem m' w w' W W' μ μ')
  {d:Option Nat} {v:Value} {av:A} (Y:∀x,d=some x->x<E.N) (Z:Rep w' W' μ' v av):SatW E ⟨setF s.fr d av,m'⟩ (a.put d v) w' W' μ' where
 defers:=by cases d<;>exact H.defers
 size:=by have:=H.size;cases d<;>simp[Act.put,this]
 fr:=λ t=>by
  rw[XG a d v t (λ x K=>by rw[H.size];exact Y x K)];simp only[setF];split
  .exact Z
  .exact(H.fr t).step h
 mem:=h.mem
 inj:=h.inj
 keeps:=H.keeps.trans h.keeps (λ x K U=>by
  obtain⟨_,y,k,L,rfl⟩:=U;rcases H.live y k L with h1|h1
  .exact h1
  .omega)
 winlt:=H.winlt
 wsub:=λ b hb=>by
  by_cases V:b<w.heap.size
  .exact H.wsub b (h.hW b V hb)
  .have:=H.keeps.size;exact .inr om
 wsup:=λ b hb=>by
  rcases H.wsup b hb with h1|h1
  .rcases h.wsup b h1 with O|⟨y,k,L,rfl⟩
   .exact .inl O
   .rcases H.live y k L with h3|h3
    .exact .inr h3
    .have:=H.winlt _ hb;omega
  .exact .inr h1
 wlt:=h.wlt
 live:=λ x k K=>by
  rcases h.live x k K with⟨y,k',L,B⟩|h1
  .rw[<-B];exact H.live y k' L
  .have:=H.keeps.size;exact .inr om
 glob:=λ g F hg=>by
  obtain⟨h1,O,h3⟩:=H.glob g F hg;refine⟨λ U=>h1 (h.hW g O U),eK O h.keeps.size,λ j a M=>?_⟩;obtain⟨u,hu,hr⟩:=h3 j a M;exact⟨u,(World.cell?_of_block (w:=w) (h.keeps.block g O (λ U=>h1 U.1))).trans hu,
   hr.keep h.keeps (λ _ _ h1 O=>h1 O.1) (λ b hb h1 O=>h1 (h.hW b hb O))⟩
 fix:=λ x K=>by
  rcases H.fix x K with⟨h1,O⟩|h1
  .rcases h.old x O with e|e
   .exact .inl ⟨e.trans h1,by rw[e];exact O⟩
   .exact .inr e
  .rcases h.old x (by rw[h1];simp)with e|e
   .exact .inr (e.trans h1)
   .exact .inr e
section
variable {w w':World} {W W':Nat→Prop} {μ μ':Nat→Loc} {m:Nat→MS}
def uX.goes{D:Nat->Prop}{r:Row}{k:Blk}(U:Keeps D w w')(B:∀b,b<w.heap.size->¬W b->¬D b)(F:∀b,b<w.heap.size->¬W b->¬W' b)(ho:Old μ μ')
  (hb:¬D k.b) (K:W k.b->W' k.b) (h:uX w W μ r k):uX w' W' μ' r k:=by
 obtain⟨M,L,V,us,H,e,Y,Z,h6⟩:=h;refine⟨λ O=>K (M O),L,V,us,H,e,?_,Z,h6.mono λ u a O=>O.goes U B F ho⟩;rw[U.block k.b (cU.1 Y).1 hb];exact Y
def RepX.keep{D:Nat->Prop}{U:Bool}{v:Value}{Y:List A}(B:Keeps D w w')(F:∀b,b<w.heap.size->¬W b->¬D b)(M:∀b,b<w.heap.size->¬W b->¬W' b)(h:RepX w W U v Y):RepX w' W' U v Y:=by
 unfold RepX at*;split
 .rename_i K;rw[cB K]at h;obtain⟨vs,H,O,L⟩:=h;exact⟨vs,H,O,λ i u a x y=>(L i u a x y).keep B F M⟩
 .rename_i K;rw[bX K]at h;obtain⟨a,H,O⟩:=h;exact⟨a,H,O.keep B F M⟩
def RepY.keep{D:Nat->Prop}{v:Value}{a:A}(H:Keeps D w w')(O:∀b,b<w.heap.size->¬W b->¬D b)(U:∀b,b<w.heap.size->¬W b->¬W' b)(h:RepY w W v a):RepY w' W' v a:=by
 cases a with
 |agg M=>obtain⟨vs,Y,B,F⟩:=h;exact⟨vs,Y,B,λ i u a x y=>(F i u a x y).keep H O U⟩
 |_=>exact RepC.keep H O U h
def sV.keep{D:Nat->Prop}{z:List A}{i:Nat}{e:MapEntry}{c:List A}(H:Keeps D w w')(O:∀b,b<w.heap.size->¬W b->¬D b)(U:∀b,b<w.heap.size->¬W b->¬W' b)(h:sV w W z i e c):sV w' W' z i e c:=by obtain⟨Y,k,B,F,M,K,L,V,Z⟩:=h;exact⟨Y,k,B,F,M,K,L,V.keep H O U,Z.keep H O U⟩
def zA.goes{D:Nat->Prop}{r:Row}{k:Blk}(H:Keeps D w w')(U:∀b,b<w.heap.size->¬W b->¬D b)(Y:∀b,b<w.heap.size->¬W b->¬W' b)
  (hb:¬D k.b) (K:W k.b->W' k.b) (h:zA w W r k):zA w' W' r k:=by
 obtain⟨B,F,M,es,O,L,V⟩:=h;refine⟨λ Z=>K (B Z),F,M,es,?_,L,λ i e c x y=>(V i e c x y).keep H U Y⟩;rw[H.block k.b (cU.1 O).1 hb];exact O
def ItOk.goes{D:Nat->Prop}{r:Row}{k:Blk}(O:Keeps D w w')(Y:∀b,b<w.heap.size->¬W b->¬D b)(B:∀b,b<w.heap.size->¬W b->¬W' b)(ho:Old μ μ')
  (hb:¬D k.b) (K:W k.b->W' k.b) (h:ItOk w W μ r k):ItOk w' W' μ' r k:=by
 obtain⟨F,M,L,V,y,b,c,H,Z,h5,U⟩:=h;refine⟨λ hr=>K (F hr),M,L,V,y,b,c,H,Z,h5.goes O Y B ho,?_⟩;rw[O.block k.b (cU.1 U).1 hb];exact U
def qG.goes{D:Nat->Prop}{r:Row}{k:Blk}(H:Keeps D w w')(O:∀b,b<w.heap.size->¬W b->¬D b)(U:∀b,b<w.heap.size->¬W b->¬W' b)(ho:Old μ μ')
  (hb:¬D k.b) (K:W k.b->W' k.b) (h:qG w W μ r k):qG w' W' μ' r k:=h.imp (uX.goes H O U ho hb K) (.imp (zA.goes H O U hb K) (ItOk.goes H O U ho hb K))
def qG.lt{r:Row}{k:Blk}(h:qG w W μ r k):k.b<w.heap.size:=by rcases h with⟨_,_,_,us,O,e,H,_⟩|⟨_,_,_,es,H,_⟩|⟨_,_,_,_,y,b,c,U,_,_,H⟩<;>exact(cU.1 H).1
def qG.wr{r:Row}{k:Blk}(h:qG w W μ r k):(r.ro=false->W k.b)/\k.sz=r.sz:=by rcases h with h|h|h<;>exact⟨h.1,h.2.1⟩
def qN.goes{D:Nat->Prop}{x:Nat}{q:MS}(U:Keeps D w w')(Y:∀b,b<w.heap.size->¬W b->¬D b)(B:∀b,b<w.heap.size->¬W b->¬W' b)(ho:Old μ μ')
  (K:μ' x=μ x) (hb:∀k,μ x=.at_ k->¬D k.b) (L:∀b,W b->W' b) (h:qN w W μ x q):qN w' W' μ' x q:=by
 cases q with
 |fresh=>exact K.trans h
 |dead=>exact K.trans h
 |row r=>
  rcases h with⟨H,O⟩|⟨k,H,O⟩
  .exact .inl ⟨K.trans H,O⟩
  .exact .inr ⟨k,K.trans H,O.goes U Y B ho (hb k H) (L _)⟩
def rI.at_(h:rI w W μ m){x:Nat}{k:Blk}(K:μ x=.at_ k):∃r,m x=.row r/\qG w W μ r k:=by
 have:=h x;cases L:m x with
 |fresh=>rw[L]at this;exact absurd (K.symm.trans this) (by simp)
 |dead=>rw[L]at this;exact absurd (K.symm.trans this) (by simp)
 |row r=>
  rw[L]at this;rcases this with⟨H,_⟩|⟨k',H,O⟩
  .rw[K]at H;cases H
  .rw[K]at H;cases H;exact⟨r,rfl,O⟩
def Step.quiet(H:Keeps (λ _=>False) w w')(hm:rI w W μ m)(hi:∀x y k k',μ x=.at_ k->μ y=.at_ k'->k.b=k'.b->x=y)(K:∀b,W b->b<w.heap.size):
  Step m m w w' W W μ μ where
 keeps:=H.mono λ _ _ h=>h.elim
 hW:=λ _ _ h=>h
 wsup:=λ _ h=>.inl h
 wlt:=λ b h=>eK (K b h) H.size
 old:=Old.refl μ
 wlt0:=K
 mem:=λ x=>(hm x).goes H (λ _ _ _ h=>h) (λ _ _ h=>h) (Old.refl μ) rfl (λ _ _ h=>h) (λ _ h=>h)
 inj:=hi
 live:=λ x k h=>.inl ⟨x,k,h,rfl⟩
def Step.new(hm:rI w W μ m)(hi:∀x y k k',μ x=.at_ k->μ y=.at_ k'->k.b=k'.b->x=y)(hl:∀b,W b->b<w.heap.size)
  {id:Nat} (Y:m id=.fresh) {r:Row} {us rest:List Value} {e:TypeId} (B:0<r.sz) (U:Keeps (λ _=>False) w w') (hf:Flat (RepK w W μ) r.sz us r.es)
  (hh:w'.heap[w.heap.size]? =some (.cells (us++rest).toArray e (0,0))):
  Step m (setM m [(id,.row r)]) w w' W (λ b=>W b\/b=w.heap.size) μ (λ x=>if x=id then .at_ ⟨w.heap.size,r.sz,us.length+rest.length⟩else μ x):=by
 have F:μ id=.fresh:=by have:=hm id;rw[Y]at this;exact this
 have H:Old μ (λ x=>if x=id then .at_ ⟨w.heap.size,r.sz,us.length+rest.length⟩else μ x):=λ x K=>by
  by_cases h:x=id
  .subst h;exact absurd F K
  .exact .inl (by simp[h])
 have hlt:w.heap.size<w'.heap.size:=(cU.1 hh).1;refine⟨U.mono λ _ _ h=>h.elim,λ b hb h=>?_,λ b h=>.inl (.inl h),hl,λ b h=>?_,H,λ x=>?_,λ x y k k' K L M=>?_,λ x k K=>?_⟩
 .rcases h with h|h
  .exact h
  .omega
 .rcases h with h|h
  .exact eK (hl b h) U.size
  .omega
 .simp only[setM]
  by_cases h:x=id
  .subst h;simp only[cH];exact .inr ⟨⟨w.heap.size,r.sz,us.length+rest.length⟩,by simp,.inl ⟨λ _=>.inr rfl,rfl,B,us,rest,e,hh,rfl,hf.mono λ u a hr=>hr.goes U (λ _ _ _ h=>h) (λ b hb V Z=>Z.elim V om) H⟩⟩
  .simp only[bX h];exact(hm x).goes U (λ _ _ _ h=>h) (λ b hb V Z=>Z.elim V om) H (by simp[h]) (λ _ _ h=>h) (λ _ h=>.inl h)
 .have O:∀z kz,μ z=.at_ kz->kz.b<w.heap.size:=λ z kz B=>by obtain⟨_,_,h⟩:=hm.at_ B;exact h.lt
  try simp only at K L
  split at K<;>split at L
  .subst_vars;rfl
  .cases K;have:=O _ _ L;simp only at M;omega
  .cases L;have:=O _ _ K;simp only at M;omega
  .exact hi x y k k' K L M
 .try simp only at K
  split at K
  .cases K;exact .inr (dG _)
  .exact .inl ⟨x,k,K,rfl⟩
def Step.newEmpty(hm:rI w W μ m)(hi:∀x y k k',μ x=.at_ k->μ y=.at_ k'->k.b=k'.b->x=y)(V:∀b,W b->b<w.heap.size)
  {id:Nat} (O:m id=.fresh) {r:Row} (F:0<r.sz) (U:r.es=[]) (Y:Keeps (λ _=>False) w w'):
  Step m (setM m [(id,.row r)]) w w' W W μ (λ x=>if x=id then .empty else μ x):=by
 have B:μ id=.fresh:=by have:=hm id;rw[O]at this;exact this
 have H:Old μ (λ x=>if x=id then .empty else μ x):=λ x K=>by
  by_cases h:x=id
  .subst h;exact absurd B K
  .exact .inl (by simp[h])
 refine⟨Y.mono λ _ _ h=>h.elim,λ b hb h=>h,λ b h=>.inl h,V,λ b h=>eK (V b h) Y.size,H,λ x=>?_,λ x y k k' K L U=>?_,λ x k K=>?_⟩
 .simp only[setM]
  by_cases h:x=id
  .subst h;simp only[cH];exact .inl ⟨by simp,U,F⟩
  .simp only[bX h];exact(hm x).goes Y (λ _ _ _ h=>h) (λ _ _ h=>h) H (by simp[h]) (λ _ _ h=>h) (λ _ h=>h)
 .try simp only at K L
  split at K<;>split at L<;>first|(cases K;done)|(cases L;done)|exact hi x y k k' K L U
 .try simp only at K
  split at K
  .cases K
  .exact .inl ⟨x,k,K,rfl⟩
def Step.write(hm:rI w W μ m)(hi:∀x y k k',μ x=.at_ k->μ y=.at_ k'->k.b=k'.b->x=y)(V:∀b,W b->b<w.heap.size)
  {x:Nat} {k:Blk} {r r':Row} (K:μ x=.at_ k) (B:m x=.row r) (F:r.ro=false) (U:r'.sz=r.sz)
  {us rest:List Value} {e:TypeId} (Y:Keeps (λ b=>b=k.b) w w') (hf:Flat (RepK w W μ) r'.sz us r'.es)
  (hh:w'.heap[k.b]? =some (.cells (us++rest).toArray e (0,0))) (ht:us.length+rest.length=k.tot) (M:0<r.sz:=by first|assumption|omega|exact uX.pos' (by assumption)):
  Step m (setM m [(x,.row r')]) w w' W W μ μ:=by
 obtain⟨r0,Z,H⟩:=hm.at_ K;rw[B]at Z;cases Z;have O:W k.b:=H.wr.1 F;have hD:∀b,b<w.heap.size->¬W b->¬b=k.b:=λ b _ L h2=>L (h2▸O);refine⟨Y.mono λ b _ h=>h▸⟨O,x,k,K,rfl⟩,λ _ _ h=>h,λ _ h=>.inl h,V,λ b h=>eK (V b h) Y.size,Old.refl μ,λ y=>?_,hi,λ y k' h=>.inl ⟨y,k',h,rfl⟩⟩;simp only[setM]
 by_cases h:y=x
 .subst h;simp only[cH];exact .inr ⟨k,K,.inl ⟨λ _=>O,H.wr.2.trans U.symm,U▸M,us,rest,e,hh,ht,hf.mono λ u a B=>B.goes Y hD (λ _ _ h=>h) (Old.refl μ)⟩⟩
 .simp only[bX h];exact(hm y).goes Y hD (λ _ _ h=>h) (Old.refl μ) rfl (λ k1 L he=>h (hi y x k1 k L K he)) (λ _ h=>h)
def Step.newAny(hm:rI w W μ m)(hi:∀x y k k',μ x=.at_ k->μ y=.at_ k'->k.b=k'.b->x=y)(V:∀b,W b->b<w.heap.size)
  {id:Nat} (U:m id=.fresh) {r:Row} (Y:Keeps (λ _=>False) w w') (Z:w.heap.size<w'.heap.size)
  (hA:qG w' (λ b=>W b\/b=w.heap.size) (λ x=>if x=id then .at_ ⟨w.heap.size,0,0⟩else μ x) r ⟨w.heap.size,0,0⟩):
  Step m (setM m [(id,.row r)]) w w' W (λ b=>W b\/b=w.heap.size) μ (λ x=>if x=id then .at_ ⟨w.heap.size,0,0⟩else μ x):=by
 have B:μ id=.fresh:=by have:=hm id;rw[U]at this;exact this
 have H:Old μ (λ x=>if x=id then .at_ ⟨w.heap.size,0,0⟩else μ x):=λ x K=>by
  by_cases h:x=id
  .subst h;exact absurd B K
  .exact .inl (by simp[h])
 refine⟨Y.mono λ _ _ h=>h.elim,λ b hb h=>?_,λ b h=>.inl (.inl h),V,λ b h=>?_,H,λ x=>?_,λ x y k k' K L F=>?_,λ x k K=>?_⟩
 .rcases h with h|h
  .exact h
  .omega
 .rcases h with h|h
  .exact eK (V b h) Y.size
  .omega
 .simp only[setM]
  by_cases h:x=id
  .subst h;simp only[cH];exact .inr ⟨⟨w.heap.size,0,0⟩,by simp,hA⟩
  .simp only[bX h];exact(hm x).goes Y (λ _ _ _ h=>h) (λ b hb h1 h2=>h2.elim h1 om) H (by simp[h]) (λ _ _ h=>h) (λ _ h=>.inl h)
 .have O:∀z M,μ z=.at_ M->M.b<w.heap.size:=λ z M hz=>by obtain⟨_,_,h⟩:=hm.at_ hz;exact h.lt
  try simp only at K L
  split at K<;>split at L
  .subst_vars;rfl
  .cases K;have:=O _ _ L;simp only at F;omega
  .cases L;have:=O _ _ K;simp only at F;omega
  .exact hi x y k k' K L F
 .try simp only at K
  split at K
  .cases K;exact .inr (dG _)
  .exact .inl ⟨x,k,K,rfl⟩
def Step.newMap(hm:rI w W μ m)(hi:∀x y k k',μ x=.at_ k->μ y=.at_ k'->k.b=k'.b->x=y)(K:∀b,W b->b<w.heap.size)
  {id:Nat} (H:m id=.fresh) {z:List A} (U:Keeps (λ _=>False) w w') (O:w'.heap[w.heap.size]? =some (.map #[] 0)):
  Step m (setM m [(id,.row ⟨false,0,z,[]⟩)]) w w' W (λ b=>W b\/b=w.heap.size) μ (λ x=>if x=id then .at_ ⟨w.heap.size,0,0⟩else μ x):=
 Step.newAny hm hi K H U (cU.1 O).1 (.inr (.inl ⟨λ _=>.inr rfl,rfl,rfl,#[],O,rfl,λ i e c Y _=>by simp at Y⟩))
def Step.writeAny(hm:rI w W μ m)(hi:∀x y k k',μ x=.at_ k->μ y=.at_ k'->k.b=k'.b->x=y)(L:∀b,W b->b<w.heap.size)
  {x:Nat} {k:Blk} {r r':Row} (K:μ x=.at_ k) (M:m x=.row r) (U:r.ro=false) (Y:Keeps (λ b=>b=k.b) w w') (V:qG w' W μ r' k):
  Step m (setM m [(x,.row r')]) w w' W W μ μ:=by
 obtain⟨r0,F,H⟩:=hm.at_ K;rw[M]at F;cases F;have O:W k.b:=H.wr.1 U;have Z:∀b,b<w.heap.size->¬W b->¬b=k.b:=λ b _ B h2=>B (h2▸O);refine⟨Y.mono λ b _ h=>h▸⟨O,x,k,K,rfl⟩,λ _ _ h=>h,λ _ h=>.inl h,L,λ b h=>eK (L b h) Y.size,Old.refl μ,λ y=>?_,hi,λ y k' h=>.inl ⟨y,k',h,rfl⟩⟩;simp only[setM]
 by_cases h:y=x
 .subst h;simp only[cH];exact .inr ⟨k,K,V⟩
 .simp only[bX h];exact(hm y).goes Y Z (λ _ _ h=>h) (Old.refl μ) rfl (λ k1 B he=>h (hi y x k1 k B K he)) (λ _ h=>h)
def Step.writeMap(hm:rI w W μ m)(hi:∀x y k k',μ x=.at_ k->μ y=.at_ k'->k.b=k'.b->x=y)(V:∀b,W b->b<w.heap.size)
  {x:Nat} {k:Blk} {r r':Row} (K:μ x=.at_ k) (F:m x=.row r) (U:r.ro=false) (B:r.sz=0) (H:r'.sz=0) (Z:r'.z=r.z)
  {es:Array MapEntry} (M:Keeps (λ b=>b=k.b) w w') (hh:w'.heap[k.b]? =some (.map es es.size)) (hn:es.size=r'.es.length)
  (he:∀(i:Nat) (e:MapEntry) (c:List A),es[i]? =some e->r'.es[i]? =some c->sV w W r.z i e c):
  Step m (setM m [(x,.row r')]) w w' W W μ μ:=by
 obtain⟨r0,L,O⟩:=hm.at_ K;rw[F]at L;cases L;have Y:W k.b:=O.wr.1 U;exact Step.writeAny hm hi V K F U M (.inr (.inl ⟨λ _=>Y,by rw[O.wr.2,B,H],H,es,hh,hn,λ i e c x1 x2=>by
  rw[Z];exact(he i e c x1 x2).keep M (λ b _ h1 h2=>h1 (h2▸Y)) (λ _ _ h=>h)⟩))
def Step.kill(hm:rI w W μ m)(hi:∀x y k k',μ x=.at_ k->μ y=.at_ k'->k.b=k'.b->x=y)(L:∀b,W b->b<w.heap.size){x:Nat}:
  Step m (setM m [(x,.dead)]) w w W W μ (λ y=>if y=x then .dead else μ y):=by
 have H:Old μ (λ y=>if y=x then .dead else μ y):=λ y K=>by
  by_cases h:y=x
  .exact .inr (by simp[h])
  .exact .inl (by simp[h])
 refine⟨Keeps.refl _ w,λ _ _ h=>h,λ _ h=>.inl h,L,L,H,λ y=>?_,λ y z k k' K O U=>?_,λ y k K=>?_⟩
 .simp only[setM]
  by_cases h:y=x
  .simp only[cB h,qN]
  .simp only[bX h];exact(hm y).goes (Keeps.refl (λ _=>False) w) (λ _ _ _ h=>h) (λ _ _ h=>h) H (by simp[h]) (λ _ _ h=>h) (λ _ h=>h)
 .try simp only at K O
  split at K<;>split at O<;>first|(cases K;done)|(cases O;done)|exact hi y z k k' K O U
 .try simp only at K
  split at K
  .cases K
  .exact .inl ⟨y,k,K,rfl⟩
def Step.moved(hm:rI w W μ m)(hi:∀x y k k',μ x=.at_ k->μ y=.at_ k'->k.b=k'.b->x=y)(hl:∀b,W b->b<w.heap.size)
  {x id:Nat} {k:Blk} {r r':Row} (L:μ x=.at_ k) (F:m x=.row r) (y0:r.ro=false) (M:r'.sz=r.sz) (x0:m id=.fresh)
  {us rest:List Value} {e:TypeId} (hk:Keeps (λ b=>b=k.b) w w') (hf:Flat (RepK w W μ) r'.sz us r'.es)
  (hh:w'.heap[k.b]? =some (.cells (us++rest).toArray e (0,0))) (ht:us.length+rest.length=k.tot) (z0:0<r.sz:=by first|assumption|omega|exact uX.pos' (by assumption)):
  Step m (setM m [(x,.dead),(id,.row r')]) w w' W W μ (λ y=>if y=id then .at_ k else if y=x then .dead else μ y):=by
 obtain⟨r0,h0,Y⟩:=hm.at_ L;rw[F]at h0;cases h0;have u0:μ id=.fresh:=by have:=hm id;rw[x0]at this;exact this
 have v0:id≠x:=λ e=>by subst e;rw[x0]at F;cases F
 have B:W k.b:=Y.wr.1 y0;have hD:∀b,b<w.heap.size->¬W b->¬b=k.b:=λ b _ V H=>V (H▸B);have O:Old μ (λ y=>if y=id then .at_ k else if y=x then .dead else μ y):=λ y K=>by
  by_cases h:y=id
  .subst h;exact absurd u0 K
  .by_cases H:y=x
   .subst H;exact .inr (by simp[h])
   .exact .inl (by simp[h,H])
 refine⟨hk.mono λ b _ h=>h▸⟨B,x,k,L,rfl⟩,λ _ _ h=>h,λ _ h=>.inl h,hl,λ b h=>eK (hl b h) hk.size,O,λ y=>?_,λ y z Z k2 K U he=>?_,λ y Z K=>?_⟩
 .simp only[setM]
  by_cases h:y=id
  .subst h;simp only[cH];exact .inr ⟨k,by simp,.inl ⟨λ _=>B,Y.wr.2.trans M.symm,M▸z0,us,rest,e,hh,ht,hf.mono λ u a F=>F.goes hk hD (λ _ _ h=>h) O⟩⟩
  .simp only[bX h]
   by_cases H:y=x
   .simp only[cB H,qN,bX h]
   .simp only[bX H];exact(hm y).goes hk hD (λ _ _ h=>h) O (by simp[h,H]) (λ Z V he=>H (hi y x Z k V L he)) (λ _ h=>h)
 .try simp only at K U
  have ex:∀y' k',¬y'=x->μ y'=.at_ k'->k'.b≠k.b:=λ y' k' hn V H=>hn (hi y' x k' k V L H);split at K<;>split at U
  .subst_vars;rfl
  .cases K;split at U
   .cases U
   .rename_i hn;exact absurd he.symm (ex _ _ hn U)
  .cases U;split at K
   .cases K
   .rename_i hn;exact absurd he (ex _ _ hn K)
  .split at K
   .cases K
   .split at U
    .cases U
    .exact hi y z Z k2 K U he
 .try simp only at K
  split at K
  .cases K;exact .inl ⟨x,k,L,rfl⟩
  .split at K
   .cases K
   .exact .inl ⟨y,Z,K,rfl⟩
def Step.trans{O:World}{U:Nat->Prop}{μ'':Nat->Loc}{m' Y:Nat->MS}(h:Step m m' w w' W W' μ μ')(k:Step m' Y w' O W' U μ' μ''):Step m Y w O W U μ μ'' where
 keeps:=h.keeps.trans k.keeps (λ x K V=>by
  obtain⟨h1,y,B,L,rfl⟩:=V;rcases h.live y B L with⟨z,F,M,H⟩|h2
  .exact⟨h.hW _ K h1,z,F,M,H⟩
  .omega)
 hW:=λ b hb h1=>h.hW b hb (k.hW b (eK hb h.keeps.size) h1)
 wsup:=λ b hb=>by
  rcases h.wsup b hb with h1|h1
  .rcases k.wsup b h1 with h2|⟨y,B,L,rfl⟩
   .exact .inl h2
   .rcases h.live y B L with⟨z,F,M,H⟩|h3
    .exact .inr ⟨z,F,M,H⟩
    .have:=h.wlt0 _ hb;omega
  .exact .inr h1
 wlt0:=h.wlt0
 wlt:=k.wlt
 old:=λ x K=>by
  rcases h.old x K with e|e
  .rcases k.old x (e▸K)with e2|e2
   .exact .inl (e2.trans e)
   .exact .inr e2
  .rcases k.old x (by rw[e];simp)with e2|e2
   .exact .inr (e2.trans e)
   .exact .inr e2
 mem:=k.mem
 inj:=k.inj
 live:=λ x B K=>by
  rcases k.live x B K with⟨y,ky,L,H⟩|h1
  .rcases h.live y ky L with⟨z,F,M,Z⟩|h2
   .exact .inl ⟨z,F,M,Z.trans H⟩
   .exact .inr (H▸h2)
  .have:=h.keeps.size;exact .inr om
end
def Iv:Value->A->Bool
 | .bool b,.bool c=>b==c
 | .int k n,.int k' n'=>k==k'&&n==n'
 | .string s,.str t=>s.data.toList==t.data.toList
 | .slice none 0 0,.full []=>true
 | .slice none 0 0,.sl []=>true
 | .nilFunc,.clo f []=>f==yZ
 |_,_=>false
def zC:List Value->List A->Bool
 |[],[]=>true
 |v::vs,a::as=>Iv v a&&zC vs as
 |_,_=>false
def L6:Value->A->Bool
 | .agg vs,.agg as=>zC vs.toList as
 |v,a=>Iv v a
def chkX:Operand->PX->Bool
 | .tmp t,.t n=>t==n
 | .const _,.c .any=>true
 | .const v,.c a=>L6 v a
 | .global g,.g g'=>g==g'
 | .func f,.f f'=>f==f'
 |_,_=>false
def glob(G:o5)(g:Nat):Option (List A):=
 match G with
 |[]=>none
 |q::r=>if q.1=g then some q.2 else glob r g
def xv(G:o5)(fr:Nat->A):PX->A
 | .t n=>fr n
 | .c a=>a
 | .g g=>match glob G g with
  |some H=>.rd H 0
  |none=>.any
 | .f f=>.clo f []
def A.nc:A->A
 | .cnd _ a=>a
 |a=>a
def A.gd:A->Bool
 | .cnd g _=>g
 |_=>true
section
variable {w:World} {W:Nat→Prop} {μ:Nat→Loc}
def PV{v:Value}{a:A}(h:Iv v a=true):RepC w W v a:=by
 unfold Iv at h;split at h
 .simp at h;subst h;exact .bool _
 .simp at h;obtain⟨rfl,rfl⟩:=h;exact .int _ _
 .rename_i s t;simp at h;have:s=t:=by cases s;cases t;simp only[ByteArray.mk.injEq];exact Array.toList_inj.1 (by simpa using h)
  subst this;exact .str _
 .exact .full _ _ _ (.sl0 _ _)
 .exact .sl0 _ _
 .simp at h;subst h;exact .nf
 .cases h
def nN{v:Value}{a:A}(h:RepC w W v a):RepK w W μ v a:=by
 cases h with
 |bool b=>exact .bool b
 |int k n=>exact .int k n
 |str s=>exact .str s
 |fn f=>exact .inl ⟨[],rfl,rfl,λ i u a h=>by simp at h⟩
 |nf=>exact .inr ⟨rfl,rfl,rfl⟩
 |sl0 a H=>exact .sl0 a H
 |sl b U H F es us hb L M O Y K V B=>exact .sl b U H F es us hb L M O Y K V B
 |full a n es h=>exact .full a n es h
 |bnd f us cs Z B=>exact .bnd f us cs Z B
def cloK{v:Value}{f:FuncId}{H:List A}(h:RepK w W μ v (.clo f H))(O:(f==yZ)=false):∃vs:List Value,v=.func (.func f) #[] vs.toArray/\vs.length=H.length/\∀(i:Nat) (u:Value) (a:A),vs[i]? =some u->H[i]? =some a->RepP w W μ u a:=by
 rcases h with h|⟨_,rfl,_⟩
 .exact h
 .simp at O
def nL{v:Value}{a:A}(h:RepK w W μ v a):RepV w W μ v a:=by
 cases a with
 |agg H=>exact(by cases(show RepC w W v (.agg H)from h))
 |_=>exact h
def nG{v:Value}{a:A}(h:RepV w W μ v a):Rep w W μ v a:=by
 cases a with
 |any=>trivial
 |tup H=>exact(by cases(show RepC w W v (.tup H)from h))
 |cnd g a=>exact(by cases(show RepC w W v (.cnd g a)from h))
 |_=>exact h
def qW{v:Value}{a:A}(h:RepC w W v a):Rep w W μ v a:=nG (nL (nN h))
def CR:∀{vs:List Value} {as:List A},zC vs as=true->vs.length=as.length/\∀(i:Nat) (u:Value) (a:A),vs[i]? =some u->as[i]? =some a->RepC w W u a
 |[],[],_=>⟨rfl,by simp⟩
 |v::vs,a::as,h=>by
  simp only[zC,bY]at h;obtain⟨O,U⟩:=CR h.2;refine⟨by simp[O],λ i u b H hb=>?_⟩;cases i with
  |zero=>simp at H hb;subst H;subst hb;exact PV h.1
  |succ i=>simp at H hb;exact U i u b H hb
 |[],_::_,h=>by simp[zC]at h
 |_::_,[],h=>by simp[zC]at h
def XH{v:Value}{a:A}(h:L6 v a=true):RepV w W μ v a:=by
 unfold L6 at h;split at h
 .rename_i vs as;obtain⟨H,O⟩:=CR (w:=w) (W:=W) h;exact⟨vs.toList,by simp,H,λ i u a U K=>nN (O i u a U K)⟩
 .exact nL (nN (PV h))
def XI{G:o5}{g:Nat}{H:List A}(h:glob G g=some H):(g,H)∈G:=by
 induction G with
 |nil=>simp[glob]at h
 |cons q r O=>
  unfold glob at h;split at h
  .rename_i hg;subst hg;simp at h;subst h;simp
  .exact List.mem_cons_of_mem _ (O h)
def FB{E:Env}{s:S}{a:Act}(H:SatW E s a w W μ){x:Operand}{O:PX}(h:chkX x O=true):Rep w W μ (a.eval x) (xv E.G s.fr O):=by
 unfold chkX at h;split at h
 .simp at h;subst h;exact H.fr _
 .trivial
 .exact nG (XH h)
 .rename_i g g';simp at h;subst h;simp only[xv];split
  .rename_i U hg;obtain⟨Y,B,F⟩:=H.glob g U (XI hg);exact⟨g,0,rfl,Y,B,λ j a M=>by simpa using F j a M⟩
  .trivial
 .simp at h;subst h;exact .inl ⟨[],rfl,rfl,by simp⟩
 .cases h
def Iw{v:Value}{a:A}(h:Rep w W μ v a)(hg:a.gd=true):Rep w W μ v a.nc:=by
 cases a with
 |cnd g a=>exact nG (h.1 hg)
 |_=>exact h
def Rep.toV{v:Value}{a:A}(h:Rep w W μ v a)(H:a.isV=true):RepV w W μ v a:=by cases a<;>first|exact h|(simp[A.isV]at H)
def RepV.toCells{v:Value}{a:A}(h:RepV w W μ v a)(K:a.isV=true):
  ∃us:List Value,v.cells=us.toArray/\us.length=a.cells.length/\(∀(i:Nat) (u:Value) (b:A),us[i]? =some u->a.cells[i]? =some b->RepK w W μ u b):=by
 have H:RepK w W μ v a->a.cells=[a]->∃us:List Value,v.cells=us.toArray/\us.length=a.cells.length/\(∀(i:Nat) (u:Value) (b:A),us[i]? =some u->a.cells[i]? =some b->RepK w W μ u b):=λ U Y=>by
  have F:=U.oneCell;refine⟨[v],?_,by simp[Y],λ i u b O hb=>?_⟩
  .cases v<;>first|rfl|(simp[Value.oneCell']at F)
  .rw[Y]at hb;cases i with
   |zero=>simp at O hb;subst O;subst hb;exact U
   |succ i=>simp at O
 cases a with
 |agg B=>obtain⟨vs,rfl,L,M⟩:=h;exact⟨vs,rfl,L,M⟩
 |tup B=>simp[A.isV]at K
 |cnd g a=>simp[A.isV]at K
 |any=>simp[A.isV]at K
 |rd B o=>simp[A.isV]at K
 |_=>exact H h rfl
def Rep.toCells{v:Value}{a:A}(h:Rep w W μ v a)(H:a.isV=true):
  ∃us:List Value,v.cells=us.toArray/\us.length=a.cells.length/\(∀(i:Nat) (u:Value) (b:A),us[i]? =some u->a.cells[i]? =some b->RepK w W μ u b):=(h.toV H).toCells H
def Rep.bool{v:Value}{b:Bool}(h:Rep w W μ v (.bool b)):v=.bool b:=by have:RepC w W v (.bool b):=h;cases this;rfl
def Rep.int{v:Value}{k:IntKind}{n:Int}(h:Rep w W μ v (.int k n)):v=.int k n:=by have:RepC w W v (.int k n):=h;cases this;rfl
def Rep.str{v:Value}{s:ByteArray}(h:Rep w W μ v (.str s)):v=.string s:=by have:RepC w W v (.str s):=h;cases this;rfl
def RepC.bnd_val{v:Value}{f:FuncId}{H:List A}(h:RepC w W v (.bnd f H)):∃us:List Value,v=.func (.func f) #[.agg us.toArray] #[]/\us.length=H.length/\∀(i:Nat) (u:Value) (c:A),us[i]? =some u->H[i]? =some c->RepC w W u c:=by
 cases h with
 |bnd f us H K O=>exact⟨us,rfl,K,O⟩
def RepK.toC{v:Value}{a:A}(h:RepK w W μ v a)(O:a.pure1=true):RepC w W v a:=by
 cases a with
 |clo f H=>
  cases H with
  |nil=>
   rcases h with⟨vs,rfl,K,_⟩|⟨rfl,rfl,_⟩
   .have:vs=[]:=dB K;subst this;exact .fn f
   .exact .nf
  |cons c H=>simp[A.pure1]at O
 |bool b=>exact h
 |int k n=>exact h
 |str s=>exact h
 |sl es=>exact h
 |full es=>exact h
 |bnd f H=>exact h
 |agg H=>exact h
 |_=>simp[A.pure1]at O
def RepC.open_sl{v:Value}{es:List (List A)}(h:RepC w W v (.sl es)):
  (es=[]/\∃a H,v=.slice a 0 H)\/
  ∃b O H U us,v=.slice (some ⟨b,O,none⟩) es.length H/\¬W b/\b<w.heap.size/\0<es.length/\es.length<=H/\Flat (RepC w W) U us es/\
   (∀(q:Nat) (u:Value),us[q]? =some u->w.cell? ⟨b,O+q,none⟩=some u):=by
 cases h with
 |sl0 a H=>exact .inl ⟨rfl,a,H,rfl⟩
 |sl b O H U es us hb L V Y B K Z hr=>
  refine .inr ⟨b,O,H,U,us,rfl,hb,L,V,Y,⟨K,B,λ i c j a F M=>?_⟩,Z⟩;have hi:=(cK.1 F).1;have hj:=(cK.1 M).1;rw[B i c F]at hj;have hq:i*U+j<us.length:=by rw[K];have:(i+1)*U<=es.length*U:=dU _ hi;rw[eD]at this;omega
  refine⟨us.getD (i*U+j) undef,?_,hr i c j a F M⟩;simp[hq]
def RepC.mk_sl{b off cap sz:Nat}{es:List (List A)}{us:List Value}(hb:¬W b)(K:b<w.heap.size)(H:es.length<=cap)(O:Flat (RepC w W) sz us es)
  (Y:∀(q:Nat) (u:Value),us[q]? =some u->w.cell? ⟨b,off+q,none⟩=some u):RepC w W (.slice (some ⟨b,off,none⟩) es.length cap) (.sl es):=by
 by_cases U:es=[]
 .subst U;exact .sl0 _ _
 .refine .sl b off cap sz es us hb K (gW.2 U) H O.hs O.hl Y λ i c j a B F=>?_;obtain⟨u,M,L⟩:=O.ha i c j a B F
  simpa [M]using L
def RepC.of_full{v:Value}{es:List (List A)}(h:RepC w W v (.full es)):RepC w W v (.sl es)/\∃a,v=.slice a es.length es.length:=by
 cases h with
 |full a n es h=>
  refine⟨h,?_⟩;rcases h.open_sl with⟨rfl,U,H,K⟩|⟨b,O,H,Y,us,K,_⟩
  .cases K;exact⟨_,rfl⟩
  .cases K;exact⟨_,rfl⟩
end
def mN(P:Program)(o:Oper)(a:Act)(w:World)(W:Nat->Prop)(μ:Nat->Loc)(m:Nat->MS)(av:A)(m':Nat->MS):Prop:=
  ∃r v w' W' μ',(execOp a.eval o).run P w=.ok r w'/\(r=.value v\/r=.skip/\v=undef)/\Rep w' W' μ' v av/\Step m m' w w' W W' μ μ'
def SatW.refl{E:Env}{s:S}{a:Act}{w:World}{W:Nat->Prop}{μ:Nat->Loc}(H:SatW E s a w W μ):Step s.mem s.mem w w W W μ μ:=
  Step.quiet (Keeps.refl _ w) H.mem H.inj H.wlt
section
variable {P:Program} {o:Oper} {a:Act} {E:Env} {s:S} {w:World} {W:Nat→Prop} {μ:Nat→Loc}
def SatW.still(H:SatW E s a w W μ){v:Value}{av:A}(O:(execOp a.eval o).run P w=.ok (.value v) w)(K:Rep w W μ v av):mN P o a w W μ s.mem av s.mem:=
  ⟨_,v,w,W,μ,O,.inl rfl,K,H.refl⟩
def PW(H:SatW E s a w W μ){x:Operand}{av:A}(ho:o.op=.move x\/o.op=.assign x)(K:Rep w W μ (a.eval x) av):mN P o a w W μ s.mem av s.mem:=by refine H.still (v:=a.eval x) ?_ K;rcases ho with ho|ho<;>simp[execOp,ho]
def XJ(O:SatW E s a w W μ){c x y:Operand}{b p q:Bool}(ho:o.op=.pick c x y)(H:Rep w W μ (a.eval c) (.bool b))(K:b=true->Rep w W μ (a.eval x) (.bool p))(L:b=false->Rep w W μ (a.eval y) (.bool q)):
    mN P o a w W μ s.mem (.bool (cond b p q)) s.mem:=by
  refine O.still (v:=.bool (cond b p q)) ?_ (qW (.bool _));cases b
  .simp[execOp,ho,H.bool,asBool,(L rfl).bool]
  .simp[execOp,ho,H.bool,asBool,(K rfl).bool]
def XK(H:SatW E s a w W μ){t:TypeId}{x:Operand}{b:Bool}(ho:o.op=.unOp .not t x)(K:Rep w W μ (a.eval x) (.bool b)):mN P o a w W μ s.mem (.bool (!b)) s.mem:=by refine H.still (v:=.bool (!b)) ?_ (qW (.bool _));simp[execOp,ho,K.bool,Op.unary]
def XL(H:SatW E s a w W μ){t:TypeId}{x:Operand}{k:IntKind}{n:Int}(ho:o.op=.unOp .neg t x)(K:Rep w W μ (a.eval x) (.int k n)):mN P o a w W μ s.mem (.int k (k.wrap (0-n))) s.mem:=by refine H.still (v:=.int k (k.wrap (0-n))) ?_ (qW (.int _ _));simp[execOp,ho,K.int,Op.unary,Op.intArith]
def XM(V:SatW E s a w W μ){U:BinOp}{t Z:TypeId}{x y:Operand}{F M av:A}{Y:Prop}(ho:o.op=.binOp U t x y Z)(K:Rep w W μ (a.eval x) F)(L:Rep w W μ (a.eval y) M)
    (O:CQ U F M=some (Y,av)) (B:Y):mN P o a w W μ s.mem av s.mem:=by
  have H:∀v,(binOp U t (a.eval x) (a.eval y)).run P w=.ok v w->(∀i j,eqGuard U t i j (a.eval x) (a.eval y)=pure ())->RepC w W v av->mN P o a w W μ s.mem av s.mem:=λ v h1 h2 h3=>
    V.still (v:=v) (by simp[execOp,ho,h2,h1]) (qW h3)
  cases F<;>cases M<;>try(simp[CQ]at O;done)
  · rename_i k n k' n'
    rw[K.int,L.int]at H;have hg:∀i j,eqGuard U t i j (Value.int k n) (Value.int k' n')=pure ():=by intro i j;cases U<;>rfl
    cases U <;>simp only[CQ]at O<;>
      first
        |(cases O;refine H _ ?_ hg (.int _ _);simp[binOp,Op.shift,show¬n'<0 by omega];done)
        | (split at O
           · rename_i hk
             subst hk
             first
               | (cases O;refine H _ ?_ hg (.int _ _)
                  first
                    |(simp[binOp,Op.intArith];done)
                    |(simp[binOp,Op.intDiv,B];done)
                    |(simp[binOp,Op.intBits,oD];done))
               | (cases O;refine H _ ?_ hg (.bool _)
                  first
                    |(simp only[binOp,Op.intCmp,ne_eq,kJ,cI,Qc,gt_iff_lt,ge_iff_le];done)
                    |(simp only[binOp,Op.intCmp,ne_eq,kJ,cI,Qc];exact dZ (λ b=>Result.ok (Value.bool b) w) (by rw[dR];simp)))
               |(simp at O;done)
           .cases O)
  · rename_i sa sb
    rw[K.str,L.str]at H;have hg:∀i j,eqGuard U t i j (Value.string sa) (Value.string sb)=pure ():=by intro i j;cases U<;>rfl
    cases U<;>simp only[CQ]at O<;>
      first
        |(cases O;done)
        | (cases O;refine H _ ?_ hg (by first|exact .str _|exact .bool _)
           first
             |(simp[binOp,Op.stringOp];done)
             | (have:¬IntKind.i64.max<((sa.size+sb.size:Nat):Int):=om
                simp only[binOp,Op.stringOp];rw[bX om];rfl))
def XN(O:SatW E s a w W μ){x:Operand}{i:Nat}{vs:List A}(ho:o.op=.extract x i)(K:Rep w W μ (a.eval x) (.tup vs))(hi:i<vs.length):mN P o a w W μ s.mem (vs.getD i .any) s.mem:=by
  obtain⟨us,L,V,U⟩:=K;have H:i<us.length:=om
  refine O.still (v:=us[i]) ?_ (nG (U i _ _ (by simp[H]) (by simp[hi])));simp[execOp,ho,L,Instr.extract,H]
def XO(U:SatW E s a w W μ){x:Operand}{t:TypeId}{H:Array TypeId}{b:ByteArray}(ho:o.op=.call {callee:=.builtin .len,args:=#[x],argTypes:=H})(O:H[0]? =some t)
    (K:P.underlying t=some .string) (L:Rep w W μ (a.eval x) (.str b)):mN P o a w W μ s.mem (.int .i64 b.size) s.mem:=by
  refine U.still (v:=goInt b.size) ?_ (qW (.int _ _));have Y:(Builtin.len_ H o.type #[a.eval x]).run P w=.ok (goInt b.size) w:=by simp[Builtin.len_,O,L.str,run_underlying K]
  simp[execOp,ho,resolve,invoke,builtin,Y]
def XP{id:Nat}(Z:SatW E s a w W μ){x:Operand}{t:TypeId}{O:Array TypeId}{av:A}{ef:Ef}(ho:o.op=.call {callee:=.builtin .len,args:=#[x],argTypes:=O})(x0:O[0]? =some t)
    (y0:∃e,P.underlying t=some (.slice e)) (L:Rep w W μ (a.eval x) av) (U:ev id s.mem .len [av]=some ef):mN P o a w W μ s.mem ef.v s.mem:=by
  have Y:∀n:Nat,(Builtin.len_ O o.type #[a.eval x]).run P w=.ok (goInt n) w->ef.v=.int .i64 n->mN P o a w W μ s.mem ef.v s.mem:=λ n h1 F=>by rw[F];refine Z.still (v:=goInt n) ?_ (qW (.int _ _));simp[execOp,ho,resolve,invoke,builtin,h1]
  have H:∀M n c,a.eval x=.slice M n c->(Builtin.len_ O o.type #[a.eval x]).run P w=.ok (goInt n) w:=by intro M n c K;obtain⟨e,U⟩:=y0;simp[Builtin.len_,x0,K,run_underlying U]
  cases av<;>simp only[ev]at U<;>try(cases U;done)
  · rename_i es
    cases U;have B:RepC w W (a.eval x) (.sl es):=L;rcases B.open_sl with⟨rfl,M,h0,K⟩|⟨b,z0,h0,sz,us,K,_⟩
    .exact Y 0 (H _ _ _ K) rfl
    .exact Y es.length (H _ _ _ K) rfl
  · rename_i es
    cases U;have B:RepC w W (a.eval x) (.full es):=L;obtain⟨_,M,K⟩:=B.of_full;exact Y es.length (H _ _ _ K) rfl
  · rename_i y lo n
    split at U
    · rename_i r hr
      cases U;refine Y n ?_ rfl;obtain⟨h1,F⟩:RepK w W μ (a.eval x) (.own y lo n):=L;have hm:=Z.mem y;rw[hr]at hm;rcases hm with⟨V,_⟩|⟨k,V,_⟩
      · rw[V]at F
        obtain⟨rfl,M,K⟩:=F;exact H _ _ _ K
      · rw[V]at F
        rcases F with⟨_,⟨rfl,M,K⟩|⟨h0,K,_⟩⟩
        .exact H _ _ _ K
        .exact H _ _ _ K
    .cases U
end
def aggD:TypeDesc->Bool
 | .struct _|.array _ _=>true
 |_=>false
def tyOk(P:Program)(T:TypeId)(H:Bool)(n:Nat):Bool:=
 (match P.underlying T with|some d=>aggD d==H|none=>false)&&(match P.info? T with|some i=>i.size==n|none=>false)&&(H||n==1)
section
variable {P:Program} {o:Oper} {a:Act} {E:Env} {s:S} {w:World} {W:Nat→Prop} {μ:Nat→Loc}
def o9{T:TypeId}{d:TypeDesc}(h:P.underlying T=some d)(w:World):(isAgg T).run P w=.ok (aggD d) w:=by unfold isAgg;simp only[qc,run_underlying h,Oc];cases d<;>rfl
def vZ{T:TypeId}{i:TypeInfo}(h:P.info? T=some i)(w:World):(sizeOf T).run P w=.ok i.size w:=by simp[sizeOf,typeInfo,h]
def XQ{T:TypeId}{O:Bool}{n:Nat}(U:tyOk P T O n=true){b q:Nat}{vs:List Value}(V:vs.length=n)(M:∀(i:Nat) (u:Value),vs[i]? =some u->w.cell? ⟨b,q+i,none⟩=some u):
  (Instr.loadAt T (.pointer (some ⟨b,q,none⟩))).run P w=.ok (if O then .agg vs.toArray else vs.headD undef) w:=by
 unfold tyOk at U;simp only[bY]at U;obtain⟨⟨H,Y⟩,B⟩:=U;cases K:P.underlying T with
 |none=>simp[K]at H
 |some d=>
  cases L:P.info? T with
  |none=>simp[L]at Y
  |some i=>
   simp[K]at H;simp[L]at Y;subst Y;have F:∀(j:Nat) (v:Value),vs[j]? =some v->w.cell? ((⟨b,q,none⟩:Addr).add j)=some v:=λ j v Z=>by rw[Addr.add_lit];exact M j v Z
   cases O with
   |true=>have:=run_loadCells_list (P:=P) w ⟨b,q,none⟩ vs F;rw[V]at this;simp[Instr.loadAt,Instr.sureAddr,loadVar,o9 K,H,vZ L,this]
   |false=>
    simp at B
    match vs,V with
    |[v],_=>have:=M 0 v rfl;simp[Instr.loadAt,Instr.sureAddr,loadVar,o9 K,H];rw[lO]at this;simp[this]
    |[],h=>simp[B]at h
    |_::_::_,h=>simp[B]at h
def L7{H:Bool}{n:Nat}{vs:List Value}{O:List A}(Y:H=false->n=1)(K:vs.length=n)(B:O.length=n)(U:∀(i:Nat) (u:Value) (b:A),vs[i]? =some u->O[i]? =some b->RepK w W μ u b):
  Rep w W μ (if H then .agg vs.toArray else vs.headD undef) (tV H O):=by
 cases H with
 |true=>exact⟨vs,rfl,by omega,U⟩
 |false=>
  have F:=Y rfl;subst F
  match vs,O,K,B with
  |[v],[c],_,_=>exact nG (nL (U 0 v c rfl rfl))
def L8{T:TypeId}{H:Bool}{n:Nat}(h:tyOk P T H n=true):H=false->n=1:=by
 intro K;unfold tyOk at h;simp only[bY]at h
 simpa [K]using h.2
def Ix{H:List A}{off n:Nat}(h:off+n<=H.length):(sub H off n).length=n:=by simp[sub];omega
def getElem?_sub(H:List A)(off n i:Nat):(sub H off n)[i]? =if i<n then H[off+i]? else none:=by simp only[sub,eA,eG]
def SatW.ptr(U:SatW E s a w W μ){v:Value}{y i j:Nat}{r:Row}(K:Rep w W μ v (.ptr y i j))(Y:s.mem y=.row r):
  ∃k,μ y=.at_ k/\v=.pointer (some ⟨k.b,i*k.sz+j,none⟩)/\uX w W μ r k:=by
 obtain⟨_,H⟩:RepK w W μ v (.ptr y i j):=K;have hm:=U.mem y;rw[Y]at hm;rcases hm with⟨O,_⟩|⟨k,O,B⟩
 .rw[O]at H;exact H.elim
 .rw[O]at H;exact⟨k,O,H.2,B.ok H.1⟩
def uX.pos{r:Row}{k:Blk}(h:uX w W μ r k):0<k.sz:=by have H:=h.2.1;have O:=h.2.2.1;omega
def FC{y:Nat}{k:Blk}(h:μ y=.at_ k)(H:0<k.sz)(i j:Nat):Rep w W μ (.pointer (some ⟨k.b,i*k.sz+j,none⟩)) (.ptr y i j):=by refine(show RepK w W μ _ (.ptr y i j)from⟨rfl,?_⟩);rw[h];exact⟨H,rfl⟩
def SatW.own(Y:SatW E s a w W μ){v:Value}{y lo n:Nat}{r:Row}(K:Rep w W μ v (.own y lo n))(B:s.mem y=.row r):
  (n=0/\∃a,v=.slice a 0 0)\/∃k H,μ y=.at_ k/\v=.slice (some ⟨k.b,lo*k.sz,none⟩) n H/\(lo+H)*k.sz<=k.tot/\n<=H/\lo+H<=maxLen/\uX w W μ r k:=by
 obtain⟨_,O⟩:RepK w W μ v (.own y lo n):=K;have hm:=Y.mem y;rw[B]at hm;rcases hm with⟨U,_⟩|⟨k,U,F⟩
 .rw[U]at O;exact .inl O
 .rw[U]at O;rcases O with⟨M,O|⟨H,L,V,Z,h8⟩⟩
  .exact .inl O
  .exact .inr ⟨k,H,U,L,V,Z,h8,F.ok M⟩
def SatW.posO(U:SatW E s a w W μ){v:Value}{y lo n:Nat}{r:Row}(K:Rep w W μ v (.own y lo n))(Y:s.mem y=.row r):0<r.sz:=by
 obtain⟨_,O⟩:RepK w W μ v (.own y lo n):=K;have hm:=U.mem y;rw[Y]at hm;rcases hm with⟨_,_,H⟩|⟨k,H,B⟩
 .exact H
 .rw[H]at O;have F:=O.1;have M:=B.wr.2;omega
def PY{id:Nat}(hs:SatW E s a w W μ){M:Value}{T:TypeId}{ag:Bool}{n:Nat}{av:A}{ef:Ef}(hT:tyOk P T ag n=true)(hx:Rep w W μ M av)
  (Z:ev id s.mem (.load n ag) [av]=some ef) (B:ef.obl):∃b q u,M=.pointer (some ⟨b,q,none⟩)/\(loadVar T ⟨b,q,none⟩).run P w=.ok u w/\Rep w W μ u ef.v:=by
 have h0:∀(b q:Nat) (vs:List Value) (U:List A),M=.pointer (some ⟨b,q,none⟩)->vs.length=n->U.length=n->(∀(i:Nat) (u:Value),vs[i]? =some u->w.cell? ⟨b,q+i,none⟩=some u)->
   (∀(i:Nat) (u:Value) (b:A),vs[i]? =some u->U[i]? =some b->RepK w W μ u b)->ef.v=tV ag U->∃b q u,M=.pointer (some ⟨b,q,none⟩)/\(loadVar T ⟨b,q,none⟩).run P w=.ok u w/\Rep w W μ u ef.v:=λ b q vs U h1 h2 h3 h4 h5 h6=>by
  rw[h6];exact⟨b,q,if ag then .agg vs.toArray else vs.headD undef,h1,XQ hT h2 h4,L7 (L8 hT) h2 h3 h5⟩
 cases av<;>simp only[ev]at Z<;>try(cases Z;done)
 .rename_i y i j;split at Z
  .rename_i r hr;cases Z;obtain⟨h1,h2⟩:=B;have hk:RepK w W μ (M) (.ptr y i j):=hx;obtain⟨k,h3,hk,_,h5,h6,us,v0,e,h7,h8,hf⟩:=hs.ptr hx hr
   .have Y:r.es[i]? =some (r.es.getD i r.z):=by simp[h1]
    have K:=hf.hs i _ Y;have x0:=hf.split Y;refine h0 k.b (i*k.sz+j) ((((us.drop (i*r.sz)).take r.sz).drop j).take n) _ hk ?_ (Ix om) ?_ ?_ rfl
    .have:=x0.hl;simp only[dE,dC]at this⊢;simp at this;omega
    .intro q u O;rw[eA]at O;split at O
     .rename_i y0;rw[eG,eA]at O;split at O
      .rw[eG]at O;simp only[World.cell?,h7,h5];have:i*r.sz+j+q=i*r.sz+(j+q):=om
       simp only[this,oc,bZ,cI,fO];rw[dX (cK.1 O).1,O]
      .cases O
     .cases O
    .intro q u b O hb;rw[getElem?_sub]at hb;split at hb
     .rename_i y0;rw[eA,cB y0,eG]at O;obtain⟨u',F,u0⟩:=x0.ha 0 _ (j+q) b rfl hb;simp only[kB,eC]at F;rw[O]at F;cases F;exact u0
     .cases hb
  .cases Z
 .rename_i U H;cases Z;obtain⟨b,q,hv,hb,V,Y⟩:RepK w W μ (M) (.rd U H):=hx;have K:H+n<=U.length:=B;have:∃vs:List Value,vs.length=n/\∀i,i<n->∃c,U[H+i]? =some c/\w.cell? ⟨b,q+(H+i),none⟩=some (vs.getD i undef)/\RepC w W (vs.getD i undef) c:=by
   refine⟨(List.range n).map λ i=>(w.cell? ⟨b,q+(H+i),none⟩).getD undef,by simp,λ i L=>?_⟩;have V:H+i<U.length:=om
   obtain⟨u,hu,hr⟩:=Y (H+i) U[H+i] (by simp[V]);refine⟨U[H+i],by simp[V],?_,?_⟩
   .simp[L,hu]
   .simpa [L,hu]using hr
  obtain⟨vs,hl,z0⟩:=this;refine h0 b (q+H) vs _ hv hl (Ix K) ?_ ?_ rfl
  .intro i u L;obtain⟨c,_,h2,_⟩:=z0 i (by have:=(cK.1 L).1;omega);rw[gF,h2];simp[L]
  .intro i u c L Y;obtain⟨c',h1,_,h3⟩:=z0 i (by have:=(cK.1 L).1;omega);rw[getElem?_sub]at Y;split at Y
   .rw[h1]at Y;cases Y;simp[L]at h3;exact nN h3
   .cases Y
def XR{id:Nat}(U:SatW E s a w W μ){x:Operand}{T:TypeId}{Y:Bool}{n:Nat}{av:A}{O:Ef}(ho:o.op=.load T x)(B:tyOk P T Y n=true)(K:Rep w W μ (a.eval x) av)
  (F:ev id s.mem (.load n Y) [av]=some O) (H:O.obl):mN P o a w W μ s.mem O.v s.mem:=by
 obtain⟨b,q,u,M,L,V⟩:=PY U B K F H;refine U.still (v:=u) ?_ V;simp only[execOp,ho,M,qc];show(((loadVar T ⟨b,q,none⟩).run P w).andThen _)=_;rw[L];rfl
def Iy(P:Program)(T:TypeId)(f off:Nat):Bool:=
 match P.underlying T with
 |some (.struct fs)=>match fs[f]? with
  |some g=>g.offset==off&&(match P.info? g.type with|some i=>i.size !=0|none=>false)
  |none=>false
 |_=>false
def XS{T:TypeId}{f off b q:Nat}(h:Iy P T f off=true):(Instr.fieldAt T (.pointer (some ⟨b,q,none⟩)) f).run P w=.ok (.pointer (some ⟨b,q+off,none⟩)) w:=by
 unfold Iy at h;split at h
 .rename_i Y U;split at h
  .rename_i g hg;simp only[bY]at h;obtain⟨O,H⟩:=h;split at H
   .rename_i i K;simp at O H;subst O;simp[Instr.fieldAt,run_underlying U,hg,Instr.sureAddr,fieldPlace,vZ K,H,Addr.add_lit]
   .cases H
  .cases h
 .cases h
def XT{id:Nat}(B:SatW E s a w W μ){x:Operand}{T:TypeId}{f off:Nat}{av:A}{Y:Ef}(ho:o.op=.fieldAddr T x f)(M:Iy P T f off=true)(L:Rep w W μ (a.eval x) av)
  (H:ev id s.mem (.faddr off) [av]=some Y):mN P o a w W μ s.mem Y.v s.mem:=by
 have O:∀b q,a.eval x=.pointer (some ⟨b,q,none⟩)->Rep w W μ (.pointer (some ⟨b,q+off,none⟩)) Y.v->mN P o a w W μ s.mem Y.v s.mem:=λ b q V Z=>
  B.still (by simp only[execOp,ho,V,qc,XS M,Oc,Qc]) Z
 cases av<;>simp only[ev]at H<;>try(cases H;done)
 .rename_i y i j;split at H
  .rename_i r hr;cases H;obtain⟨k,h3,hk,U⟩:=B.ptr L hr;exact O _ _ hk (by rw[gF];exact FC h3 U.pos i (j+off))
  .cases H
 .rename_i F q;cases H;obtain⟨b,q',hv,hb,K,hc⟩:RepK w W μ (a.eval x) (.rd F q):=L;exact O _ _ hv (show RepK w W μ _ (.rd F (q+off))from⟨b,q',by rw[gF],hb,K,hc⟩)
end
end Ab
end Go.Proofs.YtfmnjkfhahfhgaaGreatDoor
