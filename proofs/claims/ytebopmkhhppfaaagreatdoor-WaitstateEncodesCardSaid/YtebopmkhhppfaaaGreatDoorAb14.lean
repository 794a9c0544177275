import Derived.Test.YtebopmkhhppfaaaGreatDoorAb10
import Derived.Lib.ConvBytes
import Derived.Laws.BytesArg
namespace Go.Proofs.YtebopmkhhppfaaaGreatDoor
namespace Ab
set_option linter.unusedSimpArgs false
set_option linter.unusedVariables false
def zbe9 (f:TypeId→Option (List LK)) (P:Program):Nat→List Field→Option (List LK)
 | _,[]=>some []
 | off,g :: gs=>if g.offset == off&&g.name != "_" then
   match f g.type with
   | some ks=>if szIs P g.type ks.length&&!ks.isEmpty then (match zbe9 f P (off+ks.length) gs with|some r=>some (ks++r)|none=>none) else none
   | none=>none
  else none
def zaL1 (P:Program):Nat→TypeId→Option (List LK)
 | 0,_=>none
 | d+1,T=>match P.underlying T with
  | some .bool=>some [.b]
  | some (.int k)=>some [.i k]
  | some .string=>some [.s]
  | some (.struct fs)=>if P.stoodInHeld T then none else zbe9 (zaL1 P d) P 0 fs.toList
  | _=>none
section
variable {P:Program} {o:Oper} {a:Act} {E:Env} {s:S} {w:World} {W:Nat→Prop} {μ:Nat→Loc}
def zaP4 (P:Program) (T:TypeId) (us:List Value):Value:=match P.underlying T with
 | some d=>if aggD d then .agg us.toArray else us.headD undef
 | none=>undef
theorem zM0:∀ {ks:List LK} {cs:List A},zp1 ks cs=true→cs.length=ks.length
 | [],[],_=>rfl
 | k :: ks,c :: cs,h=>by
  simp only [zp1,Bool.and_eq_true] at h
  simp [zM0 h.2]
 | [],_ :: _,h=>by simp [zp1] at h
 | _ :: _,[],h=>by simp [zp1] at h
theorem zbf0:∀ {as bs cs ds:List A},as.length=bs.length→eqA (as++cs) (bs++ds)=(eqA as bs&&eqA cs ds)
 | [],[],cs,ds,_=>by simp [eqA]
 | a :: as,b :: bs,cs,ds,h=>by
  simp only [List.cons_append,eqA]
  rw [zbf0 (by simpa using h),Bool.and_assoc]
 | [],_ :: _,_,_,h=>by simp at h
 | _ :: _,[],_,_,h=>by simp at h
theorem zap2:∀ {k1 k2:List LK} {cs:List A},zp1 (k1++k2) cs=true→zp1 k1 (cs.take k1.length)=true∧zp1 k2 (cs.drop k1.length)=true
 | [],k2,cs,h=>by simpa [zp1] using h
 | k :: k1,k2,c :: cs,h=>by
  simp only [List.cons_append,zp1,Bool.and_eq_true] at h
  have:=zap2 h.2
  simp [zp1,h.1,this.1,this.2]
 | k :: k1,k2,[],h=>by simp [zp1] at h
theorem Cs.take {R:Value→A→Prop} {us:List Value} {cs:List A} (h:Cs R us cs) (n:Nat):Cs R (us.take n) (cs.take n) :=
 ⟨by simp [h.1],fun i u b hu hb=>by
  rw [List.getElem?_take] at hu hb
  split at hu
  ·rename_i hi; rw [if_pos hi] at hb; exact h.2 i u b hu hb
  ·cases hu⟩
theorem Cs.drop {R:Value→A→Prop} {us:List Value} {cs:List A} (h:Cs R us cs) (n:Nat):Cs R (us.drop n) (cs.drop n) :=
 ⟨by simp [h.1],fun i u b hu hb=>by
  rw [List.getElem?_drop] at hu hb
  exact h.2 _ u b hu hb⟩
theorem zbs1 {d:Nat} {T:TypeId} {ks:List LK} (h:zaL1 P d T=some ks):∃ t,P.underlying T=some t∧(aggD t=false→ks.length=1):=by
 cases d with
 | zero=>simp [zaL1] at h
 | succ d =>
  unfold zaL1 at h
  split at h
  ·rename_i hu; cases h; exact ⟨_,hu,fun _=>rfl⟩
  ·rename_i k hu; cases h; exact ⟨_,hu,fun _=>rfl⟩
  ·rename_i hu; cases h; exact ⟨_,hu,fun _=>rfl⟩
  ·rename_i fs hu; exact ⟨_,hu,fun h=>by simp [aggD] at h⟩
  ·cases h
theorem zbB5 {T:TypeId} {t:TypeDesc} {n off:Nat} (hu:P.underlying T=some t) (hz:szIs P T n=true) (hn:aggD t=false→n=1) (us:List Value) (hfit:off+n≤us.length) :
  (part T us.toArray off).run P w=.ok (zaP4 P T ((us.drop off).take n)) w:=by
 unfold zaP4
 simp only [hu]
 cases ha:aggD t with
 | true=>simp [part,zae7 hu,ha,zag0 hz]
 | false =>
  have:=hn ha
  subst this
  have hlt:off < us.length:=by omega
  simp [part,zae7 hu,ha,zau3 hlt,hlt]
theorem zbb1 (d:Nat):∀ (T:TypeId) (ks:List LK),zaL1 P d T=some ks→∀ (D:Nat),d≤D→∀ (us vs:List Value) (cs ds:List A),zp1 ks cs=true→zp1 ks ds=true→Cs (RepK w W μ) us cs→Cs (RepK w W μ) vs ds →
  (Op.equalIn D T (zaP4 P T us) (zaP4 P T vs)).run P w=.ok (eqA cs ds) w:=by
 induction d with
 | zero=>intro T ks h; simp [zaL1] at h
 | succ d ih =>
  intro T ks h D hD us vs cs ds hc hd hu hv
  obtain ⟨D',rfl⟩:∃ D',D=D'+1:=⟨D - 1,by omega⟩
  have one:∀ (k:LK),ks=[k]→∃ c e u v,cs=[c]∧ds=[e]∧us=[u]∧vs=[v]∧k.fits c=true∧k.fits e=true∧RepK w W μ u c∧RepK w W μ v e:=fun k hk=>by
   subst hk
   have l1:=zM0 hc
   have l2:=zM0 hd
   have l3:=hu.1
   have l4:=hv.1
   match cs,ds,us,vs,l1,l2,l3,l4 with
   | [c],[e],[u],[v],_,_,_,_ =>
    simp only [zp1,Bool.and_true] at hc hd
    exact ⟨c,e,u,v,rfl,rfl,rfl,rfl,hc,hd,hu.2 0 u c rfl rfl,hv.2 0 v e rfl rfl⟩
  unfold zaL1 at h
  split at h
  ·rename_i hT
   cases h
   obtain ⟨c,e,u,v,rfl,rfl,rfl,rfl,h1,h2,h3,h4⟩:=one _ rfl
   cases c <;> simp [LK.fits] at h1
   cases e <;> simp [LK.fits] at h2
   have e1:=Rep.bool (zh4 (zg9 h3))
   have e2:=Rep.bool (zh4 (zg9 h4))
   subst e1; subst e2
   simp only [zaP4,hT,aggD,Bool.false_eq_true,if_false,List.headD_cons,run_equalIn_bool' w D' T _ _ hT,eqA,eq1,Bool.and_true]
  ·rename_i k hT
   cases h
   obtain ⟨c,e,u,v,rfl,rfl,rfl,rfl,h1,h2,h3,h4⟩:=one _ rfl
   cases c <;> simp [LK.fits] at h1
   cases e <;> simp [LK.fits] at h2
   have e1:=Rep.int (zh4 (zg9 h3))
   have e2:=Rep.int (zh4 (zg9 h4))
   subst e1; subst e2; subst h1; subst h2
   simp only [zaP4,hT,aggD,Bool.false_eq_true,if_false,List.headD_cons,run_equalIn_int w D' T _ _ _ _ hT,eqA,eq1,Bool.and_true]
  ·rename_i hT
   cases h
   obtain ⟨c,e,u,v,rfl,rfl,rfl,rfl,h1,h2,h3,h4⟩:=one _ rfl
   cases c <;> simp [LK.fits] at h1
   cases e <;> simp [LK.fits] at h2
   have e1:=Rep.str (zh4 (zg9 h3))
   have e2:=Rep.str (zh4 (zg9 h4))
   subst e1; subst e2
   simp only [zaP4,hT,aggD,Bool.false_eq_true,if_false,List.headD_cons,run_equalIn_string w D' T _ _ hT,eqA,eq1,Bool.and_true]
  ·rename_i fs hT
   split at h
   ·cases h
   ·rename_i hst
    have hfo:P.fieldsOf T=fs:=by simp [Program.fieldsOf,hT]
    simp only [zaP4,hT,aggD,if_true]
    rw [run_equalIn_agg w D' T us.toArray vs.toArray (by rw [hfo]; exact hT) (by simpa using hst),hfo]
    have key:∀ (gs:List Field) (off:Nat) (kk:List LK),zbe9 (zaL1 P d) P off gs=some kk→zp1 kk (cs.drop off)=true→zp1 kk (ds.drop off)=true →
      (Op.eqFields D' us.toArray vs.toArray gs).run P w=.ok (eqA (cs.drop off) (ds.drop off)) w:=by
     intro gs
     induction gs with
     | nil =>
      intro off kk h1 h2 h3
      simp only [zbe9,Option.some.injEq] at h1
      subst h1
      have l1:=zM0 h2
      have l2:=zM0 h3
      rw [List.eq_nil_of_length_eq_zero l1,List.eq_nil_of_length_eq_zero l2]
      rfl
     | cons g gs ihg =>
      intro off kk h1 h2 h3
      unfold zbe9 at h1
      split at h1
      ·rename_i hg
       simp only [Bool.and_eq_true,beq_iff_eq,bne_iff_ne] at hg
       obtain ⟨hgo,hgn⟩:=hg
       split at h1
       ·rename_i ks1 hk1
        split at h1
        ·rename_i hsz
         split at h1
         ·rename_i r hr
          cases h1
          obtain ⟨a1,a2⟩:=zap2 h2
          obtain ⟨b1,b2⟩:=zap2 h3
          obtain ⟨t,ht,htn⟩:=zbs1 hk1
          have l1:=zM0 h2
          have l2:=zM0 h3
          simp only [List.length_drop,List.length_append] at l1 l2
          simp only [Bool.and_eq_true,Bool.not_eq_true',List.isEmpty_eq_false_iff] at hsz
          obtain ⟨hsz,hne⟩:=hsz
          have hpos:0 < ks1.length:=List.length_pos_iff.2 hne
          have l3:=hu.1
          have l4:=hv.1
          have p1:=zbB5 (w:=w) ht hsz htn us (off:=off) (by omega)
          have p2:=zbB5 (w:=w) ht hsz htn vs (off:=off) (by omega)
          have q:=ih g.type ks1 hk1 D' (by omega) _ _ _ _ a1 b1 ((hu.drop off).take _) ((hv.drop off).take _)
          rw [List.drop_drop] at a2 b2
          have r2:=ihg (off+ks1.length) r hr a2 b2
          have hsplit:eqA (cs.drop off) (ds.drop off)=(eqA ((cs.drop off).take ks1.length) ((ds.drop off).take ks1.length)&&eqA (cs.drop (off+ks1.length)) (ds.drop (off+ks1.length))):=by
           rw [← List.drop_drop,← List.drop_drop,← zbf0 (by simp; omega),List.take_append_drop,List.take_append_drop]
          rw [hsplit]
          simp only [Op.eqFields,ne_eq,hgn,not_false_eq_true,if_true,hgo,Sem.run_bind,p1,p2,Result.andThen_ok,q]
          cases eqA ((cs.drop off).take ks1.length) ((ds.drop off).take ks1.length) with
          | true=>simpa using r2
          | false=>simp
         ·cases h1
        ·cases h1
       ·cases h1
      ·cases h1
    exact key fs.toList 0 ks h (by simpa using hc) (by simpa using hd)
  ·cases h
theorem zfc2 (hs:SatW E s a w W μ) {x y:Operand} {T T2:TypeId} {neg:Bool} {ks:List LK} {cs ds:List A} (ho:o.op=.binOp (if neg then .neq else .eql) T x y T2) (hT:zaL1 P 20 T=some ks) (hag:(match P.underlying T with|some d=>aggD d|none=>false)=true)
  (hg:P.eqGuardType P.depth T=false) (hx:Rep w W μ (a.eval x) (.agg cs)) (hy:Rep w W μ (a.eval y) (.agg ds)) (hc:zp1 ks cs=true) (hd:zp1 ks ds=true) :
  zh5 P o a w W μ s.mem (.bool (if neg then !eqA cs ds else eqA cs ds)) s.mem:=by
 obtain ⟨us,hxv,hu1,hu2⟩:RepV w W μ (a.eval x) (.agg cs):=hx
 obtain ⟨vs,hyv,hv1,hv2⟩:RepV w W μ (a.eval y) (.agg ds):=hy
 have h:=zbb1 (P:=P) (w:=w) (W:=W) (μ:=μ) 20 T ks hT 10000 (by omega) us vs cs ds hc hd ⟨hu1,hu2⟩ ⟨hv1,hv2⟩
 obtain ⟨d,hd',_⟩:=zbs1 hT
 rw [hd'] at hag
 simp only [zaP4,hd',show aggD d=true from hag,if_true] at h
 refine hs.still (v:=.bool (if neg then !eqA cs ds else eqA cs ds)) ?_ (zE1 (.bool _))
 cases neg
 ·have ho':o.op=.binOp .eql T x y T2:=ho
  simp only [execOp,ho',hxv,hyv,Sem.run_bind,run_eqGuard_agg w .eql T x y us.toArray vs.toArray hg,Result.andThen_ok,run_eql_struct,h,Bool.false_eq_true,if_false,Sem.run_pure]
 ·have ho':o.op=.binOp .neq T x y T2:=ho
  simp only [execOp,ho',hxv,hyv,Sem.run_bind,run_eqGuard_agg w .neq T x y us.toArray vs.toArray hg,Result.andThen_ok,run_neq_struct,h,if_true,Sem.run_pure]
theorem zfc3 (hs:SatW E s a w W μ) {f:FuncId} {caps:Array Operand} {xs:List A} (ho:o.op=.makeFunc (.func f) #[] caps) (hl:caps.toList.length=xs.length) (hx:∀ (i:Nat) (p:Operand) (x:A),caps.toList[i]? = some p→xs[i]? = some x→Rep w W μ (a.eval p) x)
  (hv:∀ x ∈ xs,x.isK=true):zh5 P o a w W μ s.mem (.clo f xs) s.mem:=by
 refine hs.still (v:=.func (.func f) #[] (caps.map a.eval)) (by simp [execOp,ho,Instr.makeFunc]) (zh4 ?_)
 refine ⟨(caps.map a.eval).toList,by rw [Array.toArray_toList],by simpa using hl,fun i u b hu hb=>?_⟩
 simp only [Array.toList_map,List.getElem?_map,Option.map_eq_some_iff] at hu
 obtain ⟨p,hp,rfl⟩:=hu
 have h1:=hx i p b hp hb
 have h2:=hv b (List.mem_of_getElem? hb)
 cases b <;> first|exact h1|(simp [A.isK] at h2; done)|skip
 rename_i f' cs
 cases cs with
 | nil =>
  obtain ⟨vs,hv',hl',_⟩:RepK w W μ _ (.clo f' []):=h1
  have:vs=[]:=List.eq_nil_of_length_eq_zero hl'
  subst this
  rw [hv']
  exact show RepC w W _ _ from .fn f'
 | cons=>simp [A.isK] at h2
theorem zeH4 (hs:SatW E s a w W μ) {x i:Operand} {T:TypeId} {b:ByteArray} {k:IntKind} {q:Int} (ho:o.op=.index T x i) (hT:P.underlying T=some .string) (hx:Rep w W μ (a.eval x) (.str b)) (hi:Rep w W μ (a.eval i) (.int k q)) (h0:0≤q) (h1:q < b.size) :
  zh5 P o a w W μ s.mem (.int .u8 (b.toList.getD q.toNat 0).toNat) s.mem:=by
 refine hs.still (v:=.int .u8 (b.toList.getD q.toNat 0).toNat) ?_ (zE1 (.int _ _))
 have hlt:q.toNat < b.size:=by omega
 have hbl:b.toList=b.data.toList:=ByteArray.toList_eq b
 have hb:b[q.toNat]? = some (b.toList.getD q.toNat 0):=by
  rw [hbl]
  simp [getElem?_def,hlt]
  rfl
 simp [execOp,ho,hx.str,hi.int,Instr.index,asIntOf,run_underlying hT,h0,hb]
end
end Ab
end Go.Proofs.YtebopmkhhppfaaaGreatDoor
namespace Go.Proofs.YtebopmkhhppfaaaGreatDoor
namespace Ab
set_option linter.unusedSimpArgs false
set_option linter.unusedVariables false
def zt3:List Operand→List PX→Bool
 | [],[]=>true
 | x :: xs,p :: ps=>chkX x p&&zt3 xs ps
 | _,_=>false
def zaU2:Operand→Bool
 | .const (.slice none 0 0)=>true
 | _=>false
def zap3 (P:Program) (T:TypeId) (f:TypeDesc→Bool):Bool:=match P.underlying T with|some d=>f d|none=>false
def zag2:TypeDesc→Bool|.string=>true|_=>false
def zaI9:TypeDesc→Bool|.slice _=>true|_=>false
def zbU5:TypeDesc→Bool|.bool=>true|_=>false
def zbx1 (k:IntKind):TypeDesc→Bool|.int k'=>k == k'|_=>false
def zcy4 (P:Program) (T:TypeId) (f off n:Nat) (ag:Bool):Bool :=
 (match P.underlying T with|some (.struct fs)=>(match fs[f]? with|some g=>g.offset == off&&tyOk P g.type ag n|none=>false)|_=>false)
def zfc4 (P:Program) (T:TypeId) (n sz:Nat) (ag:Bool):Bool :=
 (match P.underlying T with|some (.array m e)=>m == n&&tyOk P e ag sz|_=>false)
def zQ8 (P:Program) (f:FuncId):Bool:=match P.funcs[f]? with|some fn=>fn.body.isSome&&!(fn.name == "runtime.NumGoroutine")|none=>false
def zbc4 (P:Program) (T:TypeId):Bool:=(match P.underlying T with|some (.slice e)=>zap3 P e (zbx1 .u8)|_=>false)
def zaL2 (P:Program) (op:Op) (po:PO) (xs:List PX):Bool :=
 match po with
 | .mv=>(match op with|.move x=>zt3 [x] xs|.assign x=>zt3 [x] xs|_=>false)
 | .nilown _ _=>(match op with|.move x=>zaU2 x&&xs.length == 1|.assign x=>zaU2 x&&xs.length == 1|_=>false)
 | .pick=>(match op with|.pick c x y=>zt3 [c,x,y] xs|_=>false)
 | .box _=>(match op with|.box _ x=>zt3 [x] xs|_=>false)
 | .alloc n z=>(match op with|.alloc T=>zaE6 P T z&&z.length == n&&xs.isEmpty|_=>false)
 | .build z ps=>(match op with|.build T parts=>zaE6 P T z&&zbw8 P T parts.toList ps&&zt3 (parts.toList.map (·.2)) xs|_=>false)
 | .bslice sz z=>(match op with|.buildSlice T n parts=>n == xs.length&&bsTy P T sz z&&zas7 0 parts.toList&&zt3 (parts.toList.map (·.2)) xs|_=>false)
 | .bown sz z=>(match op with|.buildSlice T n parts=>n == xs.length&&bsTy P T sz z&&zas7 0 parts.toList&&zt3 (parts.toList.map (·.2)) xs|_=>false)
 | .load n ag=>(match op with|.load T x=>tyOk P T ag n&&zt3 [x] xs|_=>false)
 | .store n=>(match op with|.store T x y=>szIs P T n&&zt3 [x,y] xs|_=>false)
 | .bin b=>(match op with|.binOp b' _ x y _=>b == b'&&zt3 [x,y] xs|_=>false)
 | .eqNil=>(match op with|.binOp b T x y _=>b == .eql&&zap3 P T zaI9&&zaU2 y&&zt3 [x] xs|_=>false)
 | .eqb neg=>(match op with|.binOp b' T x y _=>(b' == if neg then .neq else .eql)&&zap3 P T zbU5&&zt3 [x,y] xs|_=>false)
 | .eqa neg ks=>(match op with|.binOp b' T x y _=>(b' == if neg then .neq else .eql)&&zaL1 P 20 T == some ks&&zap3 P T aggD&&!P.eqGuardType P.depth T&&zt3 [x,y] xs|_=>false)
 | .not=>(match op with|.unOp .not _ x=>zt3 [x] xs|_=>false)
 | .neg=>(match op with|.unOp .neg _ x=>zt3 [x] xs|_=>false)
 | .field off n ag=>(match op with|.field T x f=>zcy4 P T f off n ag&&zt3 [x] xs|_=>false)
 | .faddr off=>(match op with|.fieldAddr T x f=>zbc3 P T f off&&zt3 [x] xs|_=>false)
 | .iaA n sz=>(match op with|.indexAddr T x i=>zbL4 P T n sz&&zt3 [x,i] xs|_=>false)
 | .iaS sz _=>(match op with|.indexAddr T x i=>zbr5 P T sz&&zt3 [x,i] xs|_=>false)
 | .idxA n sz ag=>(match op with|.index T x i=>zfc4 P T n sz ag&&zt3 [x,i] xs|_=>false)
 | .idxS=>(match op with|.index T x i=>zap3 P T zag2&&zt3 [x,i] xs|_=>false)
 | .slc sz l h m=>(match op with|.slice T x lo hi mx=>zap3 P T zaI9&&zbr6 P T sz&&l == lo.isSome&&h == hi.isSome&&m == mx.isSome&&zt3 ([x]++lo.toList++hi.toList++mx.toList) xs|_=>false)
 | .slcS l h=>(match op with|.slice T x lo hi mx=>zap3 P T zag2&&l == lo.isSome&&h == hi.isSome&&mx.isNone&&zt3 ([x]++lo.toList++hi.toList) xs|_=>false)
 | .ext i=>(match op with|.extract x i'=>i == i'&&zt3 [x] xs|_=>false)
 | .len=>(match op with|.call { callee:=.builtin .len,args,argTypes }=>(match args.toList,argTypes.toList with|[x],[t]=>zap3 P t zaI9&&zt3 [x] xs|_,_=>false)|_=>false)
 | .lenS=>(match op with|.call { callee:=.builtin .len,args,argTypes }=>(match args.toList,argTypes.toList with|[x],[t]=>zap3 P t zag2&&zt3 [x] xs|_,_=>false)|_=>false)
 | .append sz by_ _=>(match op with|.call { callee:=.builtin .append,args,argTypes }=>(match args.toList,argTypes.toList with|[x,y],[T,U]=>zbr7 P T U sz by_&&zt3 [x,y] xs|_,_=>false)|_=>false)
 | .apl sz by_=>(match op with|.call { callee:=.builtin .append,args,argTypes }=>(match args.toList,argTypes.toList with|[x,y],[T,U]=>zbr7 P T U sz by_&&zt3 [x,y] xs|_,_=>false)|_=>false)
 | .copy sz=>(match op with|.call { callee:=.builtin .copy,args,argTypes }=>(match args.toList,argTypes.toList with|[x,y],[T,_]=>zbr5 P T sz&&zt3 [x,y] xs|_,_=>false)|_=>false)
 | .clear sz z=>(match op with|.call { callee:=.builtin .clear,args,argTypes }=>(match args.toList,argTypes.toList with|[x],[T]=>zbU4 P T sz z&&zt3 [x] xs|_,_=>false)|_=>false)
 | .mk sz by_ z=>(match op with|.makeSlice T x y=>mkTy P T sz by_ z&&zt3 [x,y] xs|_=>false)
 | .conv k=>(match op with|.convert T T2 x=>zap3 P T (fun _=>true)&&zap3 P T2 (zbx1 k)&&zt3 [x] xs|_=>false)
 | .cvS=>(match op with|.convert T T2 x=>zbc4 P T&&zap3 P T2 zag2&&zt3 [x] xs|_=>false)
 | .cvB=>(match op with|.convert T T2 x=>zap3 P T zag2&&zbc4 P T2&&zt3 [x] xs|_=>false)
 | .min=>(match op with|.call { callee:=.builtin .min,args,.. }=>(match args.toList with|[x,y]=>zt3 [x,y] xs|_=>false)|_=>false)
 | .max=>(match op with|.call { callee:=.builtin .max,args,.. }=>(match args.toList with|[x,y]=>zt3 [x,y] xs|_=>false)|_=>false)
 | .nilck=>(match op with|.nilCheck x=>zt3 [x] xs|_=>false)
 | .mkf f=>(match op with|.makeFunc (.func f') fst caps=>f == f'&&fst.isEmpty&&zt3 caps.toList xs|_=>false)
 | .call f=>(match op with|.call { callee:=.value (.func f'),args,.. }=>f == f'&&zt3 args.toList xs&&zQ8 P f|_=>false)
 | .callm f=>(match op with|.call { callee:=.value (.func f'),args,.. }=>f == f'&&zt3 args.toList xs&&zQ8 P f|_=>false)
 | .callv=>(match op with|.call { callee:=.value (.tmp t),args,.. }=>zt3 (.tmp t :: args.toList) xs|_=>false)
 | .callvm=>(match op with|.call { callee:=.value (.tmp t),args,.. }=>zt3 (.tmp t :: args.toList) xs|_=>false)
section
variable {P:Program} {o:Oper} {a:Act} {E:Env} {s:S} {w:World} {W:Nat→Prop} {μ:Nat→Loc}
def Vals (w:World) (W:Nat→Prop) (μ:Nat→Loc) (a:Act) (xs:List Operand) (vs:List A):Prop :=
 xs.length=vs.length∧∀ (i:Nat) (x:Operand) (v:A),xs[i]? = some x→vs[i]? = some v→Rep w W μ (a.eval x) v
theorem Vals.one {x:Operand} {vs:List A} (h:Vals w W μ a [x] vs):∃ v,vs=[v]∧Rep w W μ (a.eval x) v:=by
 match vs,h.1 with
 | [v],_=>exact ⟨v,rfl,h.2 0 x v rfl rfl⟩
theorem Vals.two {x y:Operand} {vs:List A} (h:Vals w W μ a [x,y] vs):∃ v u,vs=[v,u]∧Rep w W μ (a.eval x) v∧Rep w W μ (a.eval y) u:=by
 match vs,h.1 with
 | [v,u],_=>exact ⟨v,u,rfl,h.2 0 x v rfl rfl,h.2 1 y u rfl rfl⟩
theorem Vals.three {x y z:Operand} {vs:List A} (h:Vals w W μ a [x,y,z] vs):∃ v u t,vs=[v,u,t]∧Rep w W μ (a.eval x) v∧Rep w W μ (a.eval y) u∧Rep w W μ (a.eval z) t:=by
 match vs,h.1 with
 | [v,u,t],_=>exact ⟨v,u,t,rfl,h.2 0 x v rfl rfl,h.2 1 y u rfl rfl,h.2 2 z t rfl rfl⟩
theorem Vals.four {x y z q:Operand} {vs:List A} (h:Vals w W μ a [x,y,z,q] vs):∃ v u t r,vs=[v,u,t,r]∧Rep w W μ (a.eval x) v∧Rep w W μ (a.eval y) u∧Rep w W μ (a.eval z) t∧Rep w W μ (a.eval q) r:=by
 match vs,h.1 with
 | [v,u,t,r],_=>exact ⟨v,u,t,r,rfl,h.2 0 x v rfl rfl,h.2 1 y u rfl rfl,h.2 2 z t rfl rfl,h.2 3 q r rfl rfl⟩
theorem zJ5 {T:TypeId} {f:TypeDesc→Bool} (h:zap3 P T f=true):∃ d,P.underlying T=some d∧f d=true:=by
 unfold zap3 at h
 split at h
 ·rename_i d hd; exact ⟨d,hd,h⟩
 ·cases h
end
end Ab
end Go.Proofs.YtebopmkhhppfaaaGreatDoor
namespace Go.Proofs.YtebopmkhhppfaaaGreatDoor
namespace Ab
set_option linter.unusedSimpArgs false
set_option linter.unusedVariables false
section
variable {P:Program} {o:Oper} {a:Act} {E:Env} {s:S} {w:World} {W:Nat→Prop} {μ:Nat→Loc}
theorem zh5.mw {av:A} {m m' m'':Nat→MS} (h:zh5 P o a w W μ m av m') (e:m'=m''):zh5 P o a w W μ m av m'':=e ▸ h
theorem zaM7 {parts:List (Nat×Operand)} {vs:List A} (h:Vals w W μ a (parts.map (·.2)) vs) :
  parts.length=vs.length∧∀ (i:Nat) (p:Nat×Operand) (x:A),parts[i]? = some p→vs[i]? = some x→Rep w W μ (a.eval p.2) x :=
 ⟨by simpa using h.1,fun i p x h1 h2=>h.2 i p.2 x (by simp [h1]) h2⟩
theorem zaY3 {x:Operand} (h:zaU2 x=true):x=.const (.slice none 0 0):=by
 unfold zaU2 at h
 split at h
 ·rfl
 ·cases h
theorem zbs2:∀ {xs:List A},allK xs=true→∀ x ∈ xs,x.isK=true
 | x :: xs,h,y,hy=>by
  simp only [allK,Bool.and_eq_true] at h
  rcases List.mem_cons.1 hy with rfl|hy
  ·exact h.1
  ·exact zbs2 h.2 y hy
theorem zaP5 {T:TypeId} (h:zbc4 P T=true):∃ e,P.underlying T=some (.slice e)∧P.underlying e=some (.int .u8):=by
 unfold zbc4 at h
 split at h
 ·rename_i e he
  obtain ⟨d,hd,hd2⟩:=zJ5 h
  refine ⟨e,he,?_⟩
  cases d <;> simp [zbx1] at hd2
  subst hd2; exact hd
 ·cases h
theorem zbU6:∀ {es:List (List A)} {l:List Int},u8s es=some l→es=l.map fun n=>[A.int .u8 n]
 | [],l,h=>by simp [u8s] at h; subst h; rfl
 | c :: cs,l,h=>by
  unfold u8s at h
  split at h
  ·cases ‹_=[]›
  ·rename_i n cs' heq
   cases heq
   obtain ⟨l',h1,rfl⟩:=Option.map_eq_some_iff.1 h
   rw [List.map_cons,← zbU6 h1]
  ·cases h
theorem zbL5 {R:Value→A→Prop} (hR:∀ u n,R u (.int .u8 n)→u=.int .u8 n) {sz:Nat} {us:List Value} {l:List Int} (h:Flat R sz us (l.map fun n=>[A.int .u8 n])) (hl:l≠[]):sz=1∧us=l.map (Value.int .u8):=by
 have hsz:sz=1:=by
  cases l with
  | nil=>exact absurd rfl hl
  | cons n l=>exact (h.hs 0 [A.int .u8 n] rfl).symm
 subst hsz
 refine ⟨rfl,List.ext_getElem? fun i=>?_⟩
 by_cases hi:i < l.length
 ·obtain ⟨u,hu,hr⟩:=h.ha i [A.int .u8 l[i]] 0 _ (by simp [hi]) rfl
  simp only [Nat.mul_one,Nat.add_zero] at hu
  rw [hu,hR u _ hr]
  simp [hi]
 ·rw [List.getElem?_eq_none (by have:=h.hl; simp at this; omega),List.getElem?_eq_none (by simp; omega)]
theorem zfc5 (hs:SatW E s a w W μ) {x:Operand} {T T2 e:TypeId} {ax:A} {es:List (List A)} {l:List Int} (ho:o.op=.convert T T2 x) (hT:P.underlying T=some (.slice e)) (he:P.underlying e=some (.int .u8)) (hT2:P.underlying T2=some .string)
  (hx:Rep w W μ (a.eval x) ax) (hns:ax.isStr=false) (hel:zas5 s.mem ax=some es) (hl:u8s es=some l) (hok:zac7 s.mem ax):zh5 P o a w W μ s.mem (.str (zam5 l)) s.mem:=by
 have hes:=zbU6 hl
 subst hes
 have hR:∀ u n,RepK w W μ u (.int .u8 n)→u=.int .u8 n:=fun u n h=>Rep.int (zh4 (zg9 h))
 have hRC:∀ u n,RepC w W u (.int .u8 n)→u=.int .u8 n:=fun u n h=>hR u n (zh7 h)
 have fin:(convert T T2 (a.eval x)).run P w=.ok (.string (strOfNums l)) w→zh5 P o a w W μ s.mem (.str (zam5 l)) s.mem:=fun h =>
  ⟨.value (.string (strOfNums l)),.string (strOfNums l),w,W,μ,by simp [execOp,ho,h],.inl rfl,zh4 (zg9 (zh7 (.str _))),hs.refl⟩
 have none_:∀ ad cap,a.eval x=.slice ad 0 cap→l=[]→zh5 P o a w W μ s.mem (.str (zam5 l)) s.mem:=fun ad cap hv h0=>by
  subst h0
  refine fin ?_
  rw [hv]
  cases ad with
  | none=>exact run_convert_bytes_nil w T e hT he 0 cap T2 hT2
  | some b =>
   rw [run_convert_bytes_string w T T2 e _ 0 cap hT he hT2,run_bytesToString w b 0 cap [] (by simp [loadCells,loadCellsFrom])]
   rfl
 have some_:∀ b off cap,a.eval x=.slice (some ⟨b,off,none⟩) l.length cap→(∀ i,i < l.length→w.cell? ⟨b,off+i,none⟩=some (.int .u8 (l.getD i 0)))→zh5 P o a w W μ s.mem (.str (zam5 l)) s.mem:=fun b off cap hv hc=>by
  refine fin ?_
  rw [hv]
  exact run_convert_bytes_arg w T e hT he b off l.length cap l rfl hc T2 hT2
 have plain:RepC w W (a.eval x) (.sl (l.map fun n=>[A.int .u8 n]))→zh5 P o a w W μ s.mem (.str (zam5 l)) s.mem:=fun hx=>by
  rcases hx.open_sl with ⟨h0,ad,cap,hv⟩|⟨b,off,cap,sz,us,hv,_,_,hn,_,hf,hc⟩
  ·exact none_ ad cap hv (by simpa using h0)
  ·have hl0:l≠[]:=by rintro rfl; simp at hn
   obtain ⟨rfl,hus⟩:=zbL5 hRC hf hl0
   refine some_ b off cap (by simpa using hv) fun i hi=>hc i _ ?_
   subst hus
   simp [hi]
 unfold zas5 at hel
 split at hel
 ·cases hel; exact plain hx
 ·cases hel; exact plain (RepC.of_full hx).1
 ·rename_i y lo n
  split at hel
  ·rename_i r hr
   simp only [Option.some.injEq] at hel
   simp only [zac7,hr] at hok
   have hlen:((r.es.drop lo).take n).length=n:=by simp; omega
   have hln:l.length=n:=by rw [← hlen,hel,List.length_map]
   rcases hs.own hx hr with ⟨rfl,ad,hv⟩|⟨k,cap,h5,h6,h7,h8,h9,hrow⟩
   ·exact none_ ad 0 hv (List.eq_nil_of_length_eq_zero hln)
   ·obtain ⟨_,hksz,hpos,us0,rest,e0,hheap,htot,hf⟩:=hrow
    have hf2:=(hf.drop lo).take n
    rw [hel] at hf2
    by_cases hl0:l=[]
    ·subst hl0
     simp at hln
     subst hln
     refine fin ?_
     rw [h6]
     rw [run_convert_bytes_string w T T2 e _ 0 cap hT he hT2,run_bytesToString w _ 0 cap [] (by simp [loadCells,loadCellsFrom])]
     rfl
    ·obtain ⟨hsz,hus⟩:=zbL5 hR hf2 hl0
     rw [hsz,Nat.mul_one,Nat.mul_one] at hus
     refine some_ k.b (lo * k.sz) cap (by rw [h6,hln]) fun i hi=>?_
     rw [hksz,hsz,Nat.mul_one]
     have h10:((us0.drop lo).take n)[i]? = some (.int .u8 (l.getD i 0)):=by rw [hus]; simp [hi]
     rw [List.getElem?_take] at h10
     split at h10
     ·rw [List.getElem?_drop] at h10
      simp only [World.cell?,hheap,Option.isSome_none,Bool.false_eq_true,if_false,List.getElem?_toArray]
      rw [List.getElem?_append_left (List.getElem?_eq_some_iff.1 h10).1,h10]
     ·cases h10
  ·cases hel
 ·simp [A.isStr] at hns
 ·cases hel
theorem zfc6 (hs:SatW E s a w W μ) {x:Operand} {T T2 e:TypeId} {b:ByteArray} {u:TypeDesc} (ho:o.op=.convert T T2 x) (hT:P.underlying T=some u) (hT2:P.underlying T2=some (.slice e)) (he:P.underlying e=some (.int .u8))
  (hx:Rep w W μ (a.eval x) (.str b)) (hlen:b.size≤maxLen):zh5 P o a w W μ s.mem (.sl (b.toList.map fun c=>[A.int .u8 c.toNat])) s.mem:=by
 have hrun:=Lib.run_convert_string_bytes (P:=P) w T T2 e b hT hT2 he
 have hk:Keeps (fun _=>False) w (Lib.bytesWorld w e b):=⟨by unfold Lib.bytesWorld World.freeze; rw [if_neg (by decide)]; rfl,by unfold Lib.bytesWorld World.freeze; rw [if_neg (by decide)]; rfl,by unfold Lib.bytesWorld World.freeze; rw [if_neg (by decide)]; rfl,by unfold Lib.bytesWorld World.freeze; rw [if_neg (by decide)]; exact Nat.le_succ _,by rw [Lib.bytesWorld_size]; omega,fun j hj _=>Lib.bytesWorld_at_old w e b j hj⟩
 have htl:b.toList=b.data.toList:=ByteArray.toList_eq ..
 have hbl:b.toList.length=b.size:=by rw [htl]; rfl
 refine ⟨.value _,_,Lib.bytesWorld w e b,W,μ,by simp [execOp,ho,hx.str,hrun]; rfl,.inl rfl,?_,Step.quiet hk hs.mem hs.inj hs.wlt⟩
 refine zh4 (zg9 (zh7 ?_))
 have hll:(b.toList.map fun c=>[A.int .u8 c.toNat]).length=b.size:=by rw [List.length_map,hbl]
 conv=>arg 3; rw [← hll]
 refine RepC.mk_sl (sz:=1) (us:=b.toList.map fun c=>Value.int .u8 c.toNat) (fun hW=>absurd (hs.wlt _ hW) (Nat.lt_irrefl _)) (by rw [Lib.bytesWorld_size]; omega) (by rw [hll]; exact grownCap_ge w b.size 0 e) ?_ ?_
 ·refine ⟨by simp,fun i c hc=>?_,fun i c j q hc hq=>?_⟩
  ·simp only [List.getElem?_map,Option.map_eq_some_iff] at hc
   obtain ⟨d,_,rfl⟩:=hc
   rfl
  ·simp only [List.getElem?_map,Option.map_eq_some_iff] at hc
   obtain ⟨d,hd,rfl⟩:=hc
   cases j with
   | zero =>
    simp at hq
    subst hq
    exact ⟨_,by simp [hd],.int _ _⟩
   | succ j=>simp at hq
 ·intro q v hq
  simp only [List.getElem?_map,Option.map_eq_some_iff] at hq
  obtain ⟨d,hd,rfl⟩:=hq
  have hlt:q < b.size:=by rw [← hbl]; exact (List.getElem?_eq_some_iff.1 hd).1
  rw [Nat.zero_add,Lib.bytesWorld_cell w e b q hlt]
  rw [htl] at hd
  simp [List.getD,hd]
theorem zbU7 (hs:SatW E s a w W μ) {id:Nat} (hid:s.mem id=.fresh) (po:PO) (xs:List PX) (vals:List A) (hV:∀ ops,zt3 ops xs=true→Vals w W μ a ops vals) (hlen:xs.length=vals.length)
  (hchk:zaL2 P o.op po xs=true) {ef:Ef} (he:ev id s.mem po vals=some ef) (hobl:ef.obl) (hnp:po≠.pick):zh5 P o a w W μ s.mem ef.v (setM s.mem ef.mw):=by
 cases po <;> simp only [zaL2] at hchk
 case pick=>exact absurd rfl hnp
 case mv =>
  split at hchk
  ·rename_i x ho
   obtain ⟨v,rfl,hv⟩:=(hV _ hchk).one
   cases he
   exact zbT9 hs (.inl ho) hv
  ·rename_i x ho
   obtain ⟨v,rfl,hv⟩:=(hV _ hchk).one
   cases he
   exact zbT9 hs (.inr ho) hv
  ·cases hchk
 case nilown sz z =>
  have key:∀ x,(o.op=.move x∨o.op=.assign x)→(zaU2 x&&xs.length == 1)=true→zh5 P o a w W μ s.mem ef.v (setM s.mem ef.mw):=fun x ho h=>by
   simp only [Bool.and_eq_true,beq_iff_eq] at h
   match vals,(show vals.length=1 by omega) with
   | [v],_ =>
    cases he
    exact zbU0 hs ho (zaY3 h.1) hid hobl
  split at hchk
  ·rename_i x ho; exact key x (.inl ho) hchk
  ·rename_i x ho; exact key x (.inr ho) hchk
  ·cases hchk
 case box n =>
  split at hchk
  ·rename_i T x ho
   obtain ⟨v,rfl,hv⟩:=(hV _ hchk).one
   cases he
   exact zfc0 hs ho hv hid hobl.1 hobl.2.1 hobl.2.2
  ·cases hchk
 case alloc n z =>
  split at hchk
  ·rename_i T ho
   simp only [Bool.and_eq_true,beq_iff_eq] at hchk
   obtain ⟨⟨h1,h2⟩,h3⟩:=hchk
   have:vals=[]:=by
    have:xs=[]:=by simpa using h3
    subst this
    exact List.eq_nil_of_length_eq_zero hlen.symm
   subst this
   subst h2
   cases he
   exact zcy0 hs ho h1 hid hobl.1
  ·cases hchk
 case build z ps =>
  split at hchk
  ·rename_i T parts ho
   simp only [Bool.and_eq_true] at hchk
   obtain ⟨⟨h1,h2⟩,h3⟩:=hchk
   obtain ⟨h4,h5⟩:=zaM7 (hV _ h3)
   cases vals <;> (cases he; exact zcy2 hs ho h1 h2 h4 h5 hobl)
  ·cases hchk
 case bslice sz z =>
  split at hchk
  ·rename_i T n parts ho
   simp only [Bool.and_eq_true,beq_iff_eq] at hchk
   obtain ⟨⟨⟨h0,h1⟩,h2⟩,h3⟩:=hchk
   obtain ⟨h4,h5⟩:=zaM7 (hV _ h3)
   cases vals <;> (cases he; exact zbU3 hs ho (by omega) h1 h2 h4 hobl.2.2.2.2 h5 hobl.2.1 hobl.2.2.1 hobl.2.2.2.1)
  ·cases hchk
 case bown sz z =>
  split at hchk
  ·rename_i T n parts ho
   simp only [Bool.and_eq_true,beq_iff_eq] at hchk
   obtain ⟨⟨⟨h0,h1⟩,h2⟩,h3⟩:=hchk
   obtain ⟨h4,h5⟩:=zaM7 (hV _ h3)
   cases vals <;> (cases he; exact zeH2 hs ho (by omega) h1 h2 h4 hobl.2.2.2 h5 hid hobl.1 hobl.2.1 hobl.2.2.1)
  ·cases hchk
 case load n ag =>
  split at hchk
  ·rename_i T x ho
   simp only [Bool.and_eq_true] at hchk
   obtain ⟨v,rfl,hv⟩:=(hV _ hchk.2).one
   refine (zeG9 hs ho hchk.1 hv he hobl).mw ?_
   simp only [ev] at he
   split at he
   ·split at he <;> first|(cases he; rfl)|cases he
   ·cases he; rfl
   ·cases he
  ·cases hchk
 case store n =>
  split at hchk
  ·rename_i T x y ho
   simp only [Bool.and_eq_true] at hchk
   obtain ⟨v,u,rfl,hv,hu⟩:=(hV _ hchk.2).two
   exact zcy1 hs ho hchk.1 hv hu he hobl
  ·cases hchk
 case bin b =>
  split at hchk
  ·rename_i b' T x y T2 ho
   simp only [Bool.and_eq_true,beq_iff_eq] at hchk
   obtain ⟨rfl,h2⟩:=hchk
   obtain ⟨v,u,rfl,hv,hu⟩:=(hV _ h2).two
   simp only [ev,Option.map_eq_some_iff] at he
   obtain ⟨q,hq,rfl⟩:=he
   exact zfb2 hs ho hv hu hq hobl
  ·cases hchk
 case eqb neg =>
  split at hchk
  ·rename_i b' T x y T2 ho
   simp only [Bool.and_eq_true,beq_iff_eq] at hchk
   obtain ⟨⟨rfl,h2⟩,h3⟩:=hchk
   obtain ⟨v,u,rfl,hv,hu⟩:=(hV _ h3).two
   obtain ⟨d,hd,hd2⟩:=zJ5 h2
   have hT:P.underlying T=some .bool:=by cases d <;> simp [zbU5] at hd2; exact hd
   cases v <;> simp only [ev] at he <;> try (cases he; done)
   cases u <;> simp only [ev] at he <;> try (cases he; done)
   cases he
   exact zfb9 hs ho hT hv hu
  ·cases hchk
 case eqa neg ks =>
  split at hchk
  ·rename_i b' T x y T2 ho
   simp only [Bool.and_eq_true,beq_iff_eq,Bool.not_eq_true'] at hchk
   obtain ⟨⟨⟨⟨rfl,h2⟩,h3⟩,h4⟩,h5⟩:=hchk
   obtain ⟨v,u,rfl,hv,hu⟩:=(hV _ h5).two
   cases v <;> simp only [ev] at he <;> try (cases he; done)
   cases u <;> simp only [ev] at he <;> try (cases he; done)
   cases he
   exact zfc2 hs ho h2 h3 h4 hv hu hobl.1 hobl.2
  ·cases hchk
 case not =>
  split at hchk
  ·rename_i T x ho
   obtain ⟨v,rfl,hv⟩:=(hV _ hchk).one
   cases v <;> simp only [ev] at he <;> try (cases he; done)
   cases he
   exact zfb0 hs ho hv
  ·cases hchk
 case neg =>
  split at hchk
  ·rename_i T x ho
   obtain ⟨v,rfl,hv⟩:=(hV _ hchk).one
   cases v <;> simp only [ev] at he <;> try (cases he; done)
   cases he
   exact zfb1 hs ho hv
  ·cases hchk
 case field off n ag =>
  split at hchk
  ·rename_i T x f ho
   simp only [Bool.and_eq_true] at hchk
   obtain ⟨v,rfl,hv⟩:=(hV _ hchk.2).one
   refine (zcx7 hs ho hchk.1 hv he hobl).mw ?_
   cases v <;> simp only [ev] at he <;> first|(cases he; rfl)|cases he
  ·cases hchk
 case faddr off =>
  split at hchk
  ·rename_i T x f ho
   simp only [Bool.and_eq_true] at hchk
   obtain ⟨v,rfl,hv⟩:=(hV _ hchk.2).one
   refine (zcx6 hs ho hchk.1 hv he).mw ?_
   simp only [ev] at he
   split at he
   ·split at he <;> first|(cases he; rfl)|cases he
   ·cases he; rfl
   ·cases he
  ·cases hchk
 case iaA n sz =>
  split at hchk
  ·rename_i T x i ho
   simp only [Bool.and_eq_true] at hchk
   obtain ⟨v,u,rfl,hv,hu⟩:=(hV _ hchk.2).two
   refine (zfb5 hs ho hchk.1 hv hu he hobl).mw ?_
   cases u <;> simp only [ev] at he <;> try (cases he; done)
   split at he
   ·split at he <;> first|(cases he; rfl)|cases he
   ·cases he; rfl
   ·cases he
  ·cases hchk
 case iaS sz z =>
  split at hchk
  ·rename_i T x i ho
   simp only [Bool.and_eq_true] at hchk
   obtain ⟨v,u,rfl,hv,hu⟩:=(hV _ hchk.2).two
   refine (zfb6 hs ho hchk.1 hv hu he hobl).mw ?_
   cases u <;> simp only [ev] at he <;> try (cases he; done)
   split at he
   ·cases he; rfl
   ·cases he; rfl
   ·split at he <;> first|(cases he; rfl)|cases he
   ·cases he
  ·cases hchk
 case idxA n sz ag =>
  split at hchk
  ·rename_i T x i ho
   simp only [Bool.and_eq_true] at hchk
   obtain ⟨v,u,rfl,hv,hu⟩:=(hV _ hchk.2).two
   refine (zeH0 hs ho hchk.1 hv hu he hobl).mw ?_
   cases v <;> simp only [ev] at he <;> try (cases he; done)
   cases u <;> simp only [ev] at he <;> try (cases he; done)
   cases he; rfl
  ·cases hchk
 case idxS =>
  split at hchk
  ·rename_i T x i ho
   simp only [Bool.and_eq_true] at hchk
   obtain ⟨v,u,rfl,hv,hu⟩:=(hV _ hchk.2).two
   obtain ⟨d,hd,hd2⟩:=zJ5 hchk.1
   have hT:P.underlying T=some .string:=by cases d <;> simp [zag2] at hd2; exact hd
   cases v <;> simp only [ev] at he <;> try (cases he; done)
   cases u <;> simp only [ev] at he <;> try (cases he; done)
   cases he
   exact zeH4 hs ho hT hv hu hobl.1 hobl.2
  ·cases hchk
 case slc sz l h m =>
  split at hchk
  ·rename_i T x lo hi mx ho
   simp only [Bool.and_eq_true,beq_iff_eq] at hchk
   obtain ⟨⟨⟨⟨⟨h1,h2⟩,rfl⟩,rfl⟩,rfl⟩,h6⟩:=hchk
   have V:=hV _ h6
   obtain ⟨d,hd,hd2⟩:=zJ5 h1
   have fin:∀ v,Rep w W μ (a.eval x) v→∀ l h m,Bds (lo.map a.eval) (hi.map a.eval) (mx.map a.eval) l h m→(if v.isStr then none else (zah9 s.mem sz v l h m).map fun q=>(⟨q.1,q.2,[]⟩:Ef))=some ef→zh5 P o a w W μ s.mem ef.v (setM s.mem ef.mw):=fun v hv l h m hb hq=>by
    split at hq
    ·cases hq
    ·rename_i hns
     simp only [Option.map_eq_some_iff] at hq
     obtain ⟨q,hq,rfl⟩:=hq
     refine zcC0 hs ho h2 hv ⟨fun ⟨b,hb⟩=>?_,fun hu=>?_⟩ hb hq hobl
     ·subst hb; exact absurd rfl hns
     ·rw [hd] at hu; cases hu; simp [zaI9] at hd2
   cases lo with
   | none =>
    cases hi with
    | none =>
     cases mx with
     | none =>
      obtain ⟨v,rfl,hv⟩:=V.one
      exact fin v hv none none none ⟨.inl ⟨rfl,rfl⟩,.inl ⟨rfl,rfl⟩,.inl ⟨rfl,rfl⟩⟩ he
     | some m0 =>
      obtain ⟨v,u,rfl,hv,hu⟩:=V.two
      exact absurd he (by simp [ev])
    | some h0 =>
     cases mx with
     | none =>
      obtain ⟨v,u,rfl,hv,hu⟩:=V.two
      cases u <;> simp only [ev,Option.isSome] at he <;> try (cases he; done)
      exact fin v hv none (some _) none ⟨.inl ⟨rfl,rfl⟩,.inr ⟨_,_,congrArg some hu.int,rfl⟩,.inl ⟨rfl,rfl⟩⟩ he
     | some m0 =>
      obtain ⟨v,u,t,rfl,hv,hu,ht⟩:=V.three
      cases u <;> simp only [ev,Option.isSome] at he <;> try (cases he; done)
      cases t <;> (try simp only at he) <;> try (cases he; done)
      exact fin v hv none (some _) (some _) ⟨.inl ⟨rfl,rfl⟩,.inr ⟨_,_,congrArg some hu.int,rfl⟩,.inr ⟨_,_,congrArg some ht.int,rfl⟩⟩ he
   | some l0 =>
    cases hi with
    | none =>
     cases mx with
     | none =>
      obtain ⟨v,u,rfl,hv,hu⟩:=V.two
      cases u <;> simp only [ev,Option.isSome] at he <;> try (cases he; done)
      exact fin v hv (some _) none none ⟨.inr ⟨_,_,congrArg some hu.int,rfl⟩,.inl ⟨rfl,rfl⟩,.inl ⟨rfl,rfl⟩⟩ he
     | some m0 =>
      obtain ⟨v,u,t,rfl,hv,hu,ht⟩:=V.three
      exact absurd he (by simp [ev])
    | some h0 =>
     cases mx with
     | none =>
      obtain ⟨v,u,t,rfl,hv,hu,ht⟩:=V.three
      cases u <;> simp only [ev,Option.isSome] at he <;> try (cases he; done)
      cases t <;> (try simp only at he) <;> try (cases he; done)
      exact fin v hv (some _) (some _) none ⟨.inr ⟨_,_,congrArg some hu.int,rfl⟩,.inr ⟨_,_,congrArg some ht.int,rfl⟩,.inl ⟨rfl,rfl⟩⟩ he
     | some m0 =>
      obtain ⟨v,u,t,r,rfl,hv,hu,ht,hr⟩:=V.four
      cases u <;> simp only [ev,Option.isSome] at he <;> try (cases he; done)
      cases t <;> (try simp only at he) <;> try (cases he; done)
      cases r <;> (try simp only at he) <;> try (cases he; done)
      exact fin v hv (some _) (some _) (some _) ⟨.inr ⟨_,_,congrArg some hu.int,rfl⟩,.inr ⟨_,_,congrArg some ht.int,rfl⟩,.inr ⟨_,_,congrArg some hr.int,rfl⟩⟩ he
  ·cases hchk
 case slcS l h =>
  split at hchk
  ·rename_i T x lo hi mx ho
   simp only [Bool.and_eq_true,beq_iff_eq] at hchk
   obtain ⟨⟨⟨⟨h1,rfl⟩,rfl⟩,h4⟩,h6⟩:=hchk
   have V:=hV _ h6
   obtain ⟨d,hd,hd2⟩:=zJ5 h1
   have hT:P.underlying T=some .string:=by cases d <;> simp [zag2] at hd2; exact hd
   have h2:zbr6 P T 0=true:=by simp [zbr6,hT]
   have hmx:mx=none:=by simpa using h4
   subst hmx
   have fin:∀ b,Rep w W μ (a.eval x) (.str b)→∀ l h,Bds (lo.map a.eval) (hi.map a.eval) none l h none→((zah9 s.mem 0 (.str b) l h none).map fun q=>(⟨q.1,q.2,[]⟩:Ef))=some ef→zh5 P o a w W μ s.mem ef.v (setM s.mem ef.mw):=fun b hv l h hb hq=>by
    simp only [Option.map_eq_some_iff] at hq
    obtain ⟨q,hq,rfl⟩:=hq
    exact zcC0 hs ho h2 hv ⟨fun _=>hT,fun _=>⟨b,rfl⟩⟩ hb hq hobl
   cases lo with
   | none =>
    cases hi with
    | none =>
     obtain ⟨v,rfl,hv⟩:=V.one
     cases v <;> simp only [ev,Option.isSome] at he <;> try (cases he; done)
     exact fin _ hv none none ⟨.inl ⟨rfl,rfl⟩,.inl ⟨rfl,rfl⟩,.inl ⟨rfl,rfl⟩⟩ he
    | some h0 =>
     obtain ⟨v,u,rfl,hv,hu⟩:=V.two
     cases v <;> simp only [ev,Option.isSome] at he <;> try (cases he; done)
     cases u <;> (try simp only at he) <;> try (cases he; done)
     exact fin _ hv none (some _) ⟨.inl ⟨rfl,rfl⟩,.inr ⟨_,_,congrArg some hu.int,rfl⟩,.inl ⟨rfl,rfl⟩⟩ he
   | some l0 =>
    cases hi with
    | none =>
     obtain ⟨v,u,rfl,hv,hu⟩:=V.two
     cases v <;> simp only [ev,Option.isSome] at he <;> try (cases he; done)
     cases u <;> (try simp only at he) <;> try (cases he; done)
     exact fin _ hv (some _) none ⟨.inr ⟨_,_,congrArg some hu.int,rfl⟩,.inl ⟨rfl,rfl⟩,.inl ⟨rfl,rfl⟩⟩ he
    | some h0 =>
     obtain ⟨v,u,t,rfl,hv,hu,ht⟩:=V.three
     cases v <;> simp only [ev,Option.isSome] at he <;> try (cases he; done)
     cases u <;> (try simp only at he) <;> try (cases he; done)
     cases t <;> (try simp only at he) <;> try (cases he; done)
     exact fin _ hv (some _) (some _) ⟨.inr ⟨_,_,congrArg some hu.int,rfl⟩,.inr ⟨_,_,congrArg some ht.int,rfl⟩,.inl ⟨rfl,rfl⟩⟩ he
  ·cases hchk
 case ext i =>
  split at hchk
  ·rename_i x i' ho
   simp only [Bool.and_eq_true,beq_iff_eq] at hchk
   obtain ⟨rfl,h2⟩:=hchk
   obtain ⟨v,rfl,hv⟩:=(hV _ h2).one
   cases v <;> simp only [ev] at he <;> try (cases he; done)
   cases he
   exact zfb3 hs ho hv hobl
  ·cases hchk
 case len =>
  split at hchk
  ·rename_i args ats ho
   split at hchk
   ·rename_i x t hx ht
    simp only [Bool.and_eq_true] at hchk
    obtain ⟨v,rfl,hv⟩:=(hV _ hchk.2).one
    obtain ⟨d,hd,hd2⟩:=zJ5 hchk.1
    have hT:∃ e,P.underlying t=some (.slice e):=by cases d <;> simp [zaI9] at hd2; exact ⟨_,hd⟩
    have ha:args=#[x]:=by rw [← hx]
    have hat:ats[0]? = some t:=by
     have:ats=#[t]:=by rw [← ht]
     rw [this]; rfl
    subst ha
    refine (zfb4 hs ho hat hT hv he).mw ?_
    simp only [ev] at he
    split at he
    ·cases he; rfl
    ·cases he; rfl
    ·split at he <;> first|(cases he; rfl)|cases he
    ·cases he
   ·cases hchk
  ·cases hchk
 case lenS =>
  split at hchk
  ·rename_i args ats ho
   split at hchk
   ·rename_i x t hx ht
    simp only [Bool.and_eq_true] at hchk
    obtain ⟨v,rfl,hv⟩:=(hV _ hchk.2).one
    obtain ⟨d,hd,hd2⟩:=zJ5 hchk.1
    have hT:P.underlying t=some .string:=by cases d <;> simp [zag2] at hd2; exact hd
    have ha:args=#[x]:=by rw [← hx]
    have hat:ats[0]? = some t:=by
     have:ats=#[t]:=by rw [← ht]
     rw [this]; rfl
    subst ha
    cases v <;> simp only [ev] at he <;> try (cases he; done)
    cases he
    exact zeG8 hs ho hat hT hv
   ·cases hchk
  ·cases hchk
 case append sz by_ z =>
  split at hchk
  ·rename_i args ats ho
   split at hchk
   ·rename_i x y T U hx ht
    simp only [Bool.and_eq_true] at hchk
    obtain ⟨v,u,rfl,hv,hu⟩:=(hV _ hchk.2).two
    have ha:args=#[x,y]:=by rw [← hx]
    have hat:ats=#[T,U]:=by rw [← ht]
    subst ha; subst hat
    exact zbU2 hs ho hchk.1 hv hu hid he hobl
   ·cases hchk
  ·cases hchk
 case apl sz by_ =>
  split at hchk
  ·rename_i args ats ho
   split at hchk
   ·rename_i x y T U hx ht
    simp only [Bool.and_eq_true] at hchk
    obtain ⟨v,u,rfl,hv,hu⟩:=(hV _ hchk.2).two
    have ha:args=#[x,y]:=by rw [← hx]
    have hat:ats=#[T,U]:=by rw [← ht]
    subst ha; subst hat
    cases v <;> first|(cases he; done)|skip
    cases u <;> first|(cases he; done)|skip
    cases he
    obtain ⟨h1,rfl,h3,h4,h5⟩:=hobl
    exact zfc1 hs ho hchk.1 hv hu h3 h4 h5
   ·cases hchk
  ·cases hchk
 case clear sz z =>
  split at hchk
  ·rename_i args ats ho
   split at hchk
   ·rename_i x T hx ht
    simp only [Bool.and_eq_true] at hchk
    obtain ⟨v,rfl,hv⟩:=(hV _ hchk.2).one
    have ha:args=#[x]:=by rw [← hx]
    have hat:ats=#[T]:=by rw [← ht]
    subst ha; subst hat
    exact zcy3 hs ho hchk.1 hv he hobl
   ·cases hchk
  ·cases hchk
 case copy sz =>
  split at hchk
  ·rename_i args ats ho
   split at hchk
   ·rename_i x y T U hx ht
    simp only [Bool.and_eq_true] at hchk
    obtain ⟨v,u,rfl,hv,hu⟩:=(hV _ hchk.2).two
    have ha:args=#[x,y]:=by rw [← hx]
    have hat:ats=#[T,U]:=by rw [← ht]
    subst ha; subst hat
    exact zeH3 hs ho hchk.1 hv hu he hobl
   ·cases hchk
  ·cases hchk
 case mk sz by_ z =>
  split at hchk
  ·rename_i T x y ho
   simp only [Bool.and_eq_true] at hchk
   obtain ⟨v,u,rfl,hv,hu⟩:=(hV _ hchk.2).two
   cases v <;> simp only [ev] at he <;> try (cases he; done)
   cases u <;> simp only [ev] at he <;> try (cases he; done)
   cases he
   obtain ⟨h1,_,h3,h4,h5,h6⟩:=hobl
   exact y_mk hs ho hchk.1 hv hu hid h1 h3 h4 h5 h6
  ·cases hchk
 case conv k =>
  split at hchk
  ·rename_i T T2 x ho
   simp only [Bool.and_eq_true] at hchk
   obtain ⟨⟨h1,h2⟩,h3⟩:=hchk
   obtain ⟨v,rfl,hv⟩:=(hV _ h3).one
   obtain ⟨d,hd,_⟩:=zJ5 h1
   obtain ⟨d2,hd2,hd3⟩:=zJ5 h2
   have hT:P.underlying T2=some (.int k):=by cases d2 <;> simp [zbx1] at hd3; subst hd3; exact hd2
   cases v <;> simp only [ev] at he <;> try (cases he; done)
   cases he
   exact zeH1 hs ho ⟨⟨d,hd⟩,hT⟩ hv
  ·cases hchk
 case cvS =>
  split at hchk
  ·rename_i T T2 x ho
   simp only [Bool.and_eq_true] at hchk
   obtain ⟨⟨h1,h2⟩,h3⟩:=hchk
   obtain ⟨v,rfl,hv⟩:=(hV _ h3).one
   obtain ⟨e,he1,he2⟩:=zaP5 h1
   obtain ⟨d2,hd2,hd3⟩:=zJ5 h2
   have hT2:P.underlying T2=some .string:=by cases d2 <;> simp [zag2] at hd3; exact hd2
   simp only [ev] at he
   split at he
   ·cases he
   ·rename_i hns
    simp only [Option.bind_eq_some_iff] at he
    obtain ⟨es,h4,l,h5,he⟩:=he
    cases he
    exact zfc5 hs ho he1 he2 hT2 hv (by simpa using hns) h4 h5 hobl
  ·cases hchk
 case cvB =>
  split at hchk
  ·rename_i T T2 x ho
   simp only [Bool.and_eq_true] at hchk
   obtain ⟨⟨h1,h2⟩,h3⟩:=hchk
   obtain ⟨v,rfl,hv⟩:=(hV _ h3).one
   obtain ⟨e,he1,he2⟩:=zaP5 h2
   obtain ⟨d2,hd2,hd3⟩:=zJ5 h1
   cases v <;> simp only [ev] at he <;> try (cases he; done)
   cases he
   exact zfc6 hs ho hd2 he1 he2 hv hobl
  ·cases hchk
 case min =>
  split at hchk
  ·rename_i args ats ho
   split at hchk
   ·rename_i x y hx
    obtain ⟨v,u,rfl,hv,hu⟩:=(hV _ hchk).two
    have ha:args=#[x,y]:=by rw [← hx]
    subst ha
    cases v <;> simp only [ev] at he <;> try (cases he; done)
    cases u <;> simp only [ev] at he <;> try (cases he; done)
    cases he
    have:_=_:=hobl
    subst this
    exact zfb7 hs ho hv hu
   ·cases hchk
  ·cases hchk
 case max =>
  split at hchk
  ·rename_i args ats ho
   split at hchk
   ·rename_i x y hx
    obtain ⟨v,u,rfl,hv,hu⟩:=(hV _ hchk).two
    have ha:args=#[x,y]:=by rw [← hx]
    subst ha
    cases v <;> simp only [ev] at he <;> try (cases he; done)
    cases u <;> simp only [ev] at he <;> try (cases he; done)
    cases he
    have:_=_:=hobl
    subst this
    exact zfb8 hs ho hv hu
   ·cases hchk
  ·cases hchk
 case nilck =>
  split at hchk
  ·rename_i x ho
   obtain ⟨v,rfl,hv⟩:=(hV _ hchk).one
   refine (zcx8 hs ho hv he).mw ?_
   simp only [ev] at he
   split at he
   ·split at he <;> first|(cases he; rfl)|cases he
   ·cases he; rfl
   ·cases he; rfl
   ·cases he
  ·cases hchk
 case mkf f =>
  split at hchk
  ·rename_i f' fst caps ho
   simp only [Bool.and_eq_true,beq_iff_eq] at hchk
   obtain ⟨⟨rfl,h2⟩,h3⟩:=hchk
   have hf:fst=#[]:=by simpa using h2
   subst hf
   have hv:=hV _ h3
   cases vals <;> (cases he; exact zfc3 hs ho hv.1 hv.2 (zbs2 hobl))
  ·cases hchk
 case eqNil=>cases vals <;> (simp [ev] at he)
 case call f=>cases vals <;> (simp [ev] at he)
 case callv=>cases vals <;> (simp [ev] at he)
 case callm f=>cases vals <;> (simp [ev] at he)
 case callvm=>cases vals <;> (simp [ev] at he)
end
end Ab
end Go.Proofs.YtebopmkhhppfaaaGreatDoor
namespace Go.Proofs.YtebopmkhhppfaaaGreatDoor
namespace Ab
set_option linter.unusedSimpArgs false
set_option linter.unusedVariables false
structure Cx where
 P:Program
 G:zaY2
def zae8:Nat→Loc:=fun _=>.fresh
def PFn (C:Cx) (f:FuncId) (as:List A) (r:A):Prop :=
 ∀ (w:World) (W:Nat→Prop) (vs:List Value),zaE4 w W C.G→(∀ b,W b→b < w.heap.size)→vs.length=as.length →
  (∀ (i:Nat) (v:Value) (a:A),vs[i]? = some v→as[i]? = some a→RepV w W zae8 v a) →
  Calls C.P f vs.toArray w fun e w'=>∃ v,e=.returned v∧Keeps (fun _=>False) w w'∧Rep w' W zae8 v r
def look {α:Type}:List (Nat×α)→Nat→Option α
 | [],_=>none
 | q :: r,n=>if q.1=n then some q.2 else look r n
def rm {α:Type} (n:Nat):List (Nat×α)→List (Nat×α)
 | []=>[]
 | q :: r=>if q.1=n then rm n r else q :: rm n r
def zbs3 {α:Type}:List Nat→List (Nat×α)→List (Nat×α)
 | [],l=>l
 | n :: ns,l=>zbs3 ns (rm n l)
structure St where
 fr:List (Nat×A)
 mem:List (Nat×Row)
 nx:Nat
def St.slot (st:St) (t:Nat):A:=(look st.fr t).getD .any
def St.m (st:St) (x:Nat):MS:=if st.nx≤x then .fresh else match look st.mem x with
 | some r=>.row r
 | none=>.dead
def St.toS (st:St):S:=⟨st.slot,st.m⟩
def putM:List (Nat×MS)→List (Nat×Row)→List (Nat×Row)
 | [],m=>m
 | (x,.row r) :: q,m=>putM q ((x,r) :: rm x m)
 | (x,_) :: q,m=>putM q (rm x m)
def nxt (nx:Nat):List (Nat×MS)→Nat
 | []=>nx
 | q :: r=>nxt (if q.1=nx then nx+1 else nx) r
def putF (d:Option Nat) (v:A) (fr:List (Nat×A)):List (Nat×A):=match d with
 | none=>fr
 | some d=>(d,v) :: rm d fr
def St.app (st:St) (d:Option Nat) (v:A) (mw:List (Nat×MS)):St:=⟨putF d v st.fr,putM mw st.mem,nxt st.nx mw⟩
def frz1 (m:Nat→MS):A→A
 | .own x lo n=>match m x with
  | .row r=>.sl ((r.es.drop lo).take n)
  | _=>.any
 | a=>a
def zl2:List A→Bool
 | []=>true
 | a :: as=>a.pure1&&zl2 as
def frz (m:Nat→MS):A→A
 | .agg cs=>if zl2 cs then .agg cs else .agg (cs.map (frz1 m))
 | a=>frz1 m a
def zag3 (m:Nat→MS):A→Prop
 | .own x lo n=>match m x with
  | .row r=>lo+n≤r.es.length∧zK0 ((r.es.drop lo).take n)
  | _=>False
 | a=>a.pure1=true
def zak6 (m:Nat→MS):A→Prop
 | .agg cs=>if zl2 cs then True else ∀ c ∈ cs,zag3 m c
 | .clo _ cs=>cs=[]
 | a=>zag3 m a
def zJ6 (m:Nat→MS):List A→List A
 | []=>[]
 | a :: as=>frz m a :: zJ6 m as
def zA0 (m:Nat→MS):List A→Prop
 | []=>True
 | a :: as=>zak6 m a∧zA0 m as
def zI3:A→List Nat
 | .own x _ _=>[x]
 | _=>[]
def zag4:A→List Nat
 | .agg cs=>if zl2 cs then [] else cs.flatMap zI3
 | a=>zI3 a
def zA1:List A→List Nat
 | []=>[]
 | a :: as=>zag4 a++zA1 as
def A.scal1:A→Bool
 | .bool _|.int _ _|.str _=>true
 | _=>false
def zam7:List A→Bool
 | []=>true
 | a :: as=>a.scal1&&zam7 as
def A.scal2:A→Bool
 | .agg cs=>zam7 cs
 | a=>a.scal1
def zbf1:List A→Bool
 | []=>true
 | a :: as=>a.scal2&&zbf1 as
def A.scal:A→Bool
 | .tup vs=>zbf1 vs
 | a=>a.scal2
def zO1 (m:Nat→MS):List Nat→List (Nat×MS)
 | []=>[]
 | x :: xs=>match m x with
  | .row r=>(x,.row ⟨true,r.sz,r.z,r.es⟩) :: zO1 m xs
  | _=>zO1 m xs
def zF3 (m:Nat→MS) (vals:List A) (r:A):List (Nat×MS):=if r.scal then [] else zO1 m (zA1 vals)
def zI4 (st:St):Option (Nat×Bool)→Option Bool
 | none=>some true
 | some q=>match st.slot q.1 with
  | .bool b=>some (if q.2 then b else !b)
  | .cnd g (.bool b)=>some (g&&if q.2 then b else !b)
  | _=>none
def zK1 (g:Option (Nat×Bool)) (b:Bool) (v:A):A:=match g with
 | none=>v
 | some _=>.cnd b v
def zk1 (C:Cx) (st:St):List PX→List A
 | []=>[]
 | p :: ps=>(xv C.G st.slot p).nc :: zk1 C st ps
def zae9 (C:Cx) (st:St):List PX→Prop
 | []=>True
 | p :: ps=>(xv C.G st.slot p).gd=true∧zae9 C st ps
def A.isVV:A→Bool
 | .any|.tup _|.cnd _ _=>false
 | _=>true
def rho (l:List (Nat×Nat)) (x:Nat):Nat:=(look l x).getD x
def ren0 (l:List (Nat×Nat)):A→A
 | .own x lo n=>.own (rho l x) lo n
 | .ptr x i j=>.ptr (rho l x) i j
 | a=>a
def ren1 (l:List (Nat×Nat)):A→A
 | .clo f cs=>.clo f (cs.map (ren0 l))
 | a=>ren0 l a
def ren (l:List (Nat×Nat)):A→A
 | .agg cs=>if zl2 cs then .agg cs else .agg (cs.map (ren1 l))
 | a=>ren1 l a
def renR (l:List (Nat×Nat)):A→A
 | .tup vs=>.tup (vs.map (ren l))
 | a=>ren l a
def zbB6 (nx:Nat):A→Prop
 | .own x _ _=>x < nx
 | .ptr x _ _=>x < nx
 | _=>True
def zaY4 (nx:Nat):A→Prop
 | .clo _ cs=>∀ c ∈ cs,zbB6 nx c
 | a=>zbB6 nx a
def pureEs:List (List A)→Bool
 | []=>true
 | c :: cs=>zl2 c&&pureEs cs
def zas8 (l:List (Nat×Nat)) (es:List (List A)):List (List A):=if pureEs es then es else es.map (·.map (ren1 l))
def idEs (nx:Nat) (es:List (List A)):Prop:=if pureEs es then True else ∀ c ∈ es,∀ a ∈ c,zaY4 nx a
def zap4:List Nat→Bool
 | []=>true
 | x :: xs=>!xs.contains x&&zap4 xs
def MFn (C:Cx) (f:FuncId) (as:List A) (ms:List (Nat×Row)) (k:Nat) (r:A) (ms':List (Nat×Row)) (k':Nat):Prop :=
 ∀ (w:World) (W:Nat→Prop) (μ:Nat→Loc) (vs:List Value),zaE4 w W C.G→(∀ b,W b→b < w.heap.size)→vs.length=as.length →
  (∀ (i:Nat) (v:Value) (a:A),vs[i]? = some v→as[i]? = some a→RepV w W μ v a)→zap1 w W μ (⟨[],ms,k⟩:St).m →
  (∀ x y b b',μ x=.at_ b→μ y=.at_ b'→b.b=b'.b→x=y) →
  Calls C.P f vs.toArray w fun e w'=>∃ v W' μ',e=.returned v∧Step (⟨[],ms,k⟩:St).m (⟨[],ms',k'⟩:St).m w w' W W' μ μ'∧Rep w' W' μ' v r
def A.hands:A→Bool
 | .own _ _ _|.ptr _ _ _=>true
 | .clo _ cs=>!cs.isEmpty
 | _=>false
def argM (m:Nat→MS) (l:List (Nat×Nat)) (k:Nat) (v a:A):Prop :=
 if a.hands then v=ren1 l a∧zaY4 k a else zak6 m v∧frz m v=a
def zaP6 (m:Nat→MS) (l:List (Nat×Nat)) (k:Nat):List A→List A→Prop
 | v :: vs,a :: as=>argM m l k v a∧zaP6 m l k vs as
 | [],[]=>True
 | _,_=>False
def fzM:List A→List A→List Nat
 | v :: vs,a :: as=>(if a.hands then [] else zag4 v)++fzM vs as
 | _,_=>[]
def zbs4 (m:Nat→MS) (l:List (Nat×Nat)) (k:Nat) (fz:List Nat):List (Nat×Row)→Prop
 | []=>True
 | q :: r=>(match m (rho l q.1) with
   | .row r'=>r'.ro=false∧r'.sz=q.2.sz∧r'.es=zas8 l q.2.es
   | _=>False)∧q.2.ro=false∧q.1 < k∧idEs k q.2.es∧fz.contains (rho l q.1)=false∧zbs4 m l k fz r
def zbs5 {α:Type} (ms:List (Nat×α)):Nat→Bool
 | 0=>true
 | n+1=>(look ms n).isSome&&zbs5 ms n
def okM (m:Nat→MS) (nx:Nat) (l:List (Nat×Nat)) (vals as:List A) (ms:List (Nat×Row)) (k k':Nat):Prop :=
 zaP6 m l k vals as∧zbs4 m l k (fzM vals as) ms∧zap4 (ms.map fun q=>rho l q.1)=true∧zap4 (ms.map (·.1))=true∧zbs5 ms k=true∧Nat.ble k k'=true∧(∀ q ∈ ms,rho l q.1 < nx)∧(∀ q ∈ l,q.1 < k)
def newL (k nx:Nat):Nat→List (Nat×Nat)
 | 0=>[]
 | n+1=>(k,nx) :: newL (k+1) (nx+1) n
def entM (l:List (Nat×Nat)):Option Row→MS
 | some r=>.row ⟨r.ro,r.sz,r.z,zas8 l r.es⟩
 | none=>.dead
def zab4 (l:List (Nat×Nat)) (ms':List (Nat×Row)):List Nat→List (Nat×MS)
 | []=>[]
 | x :: xs=>(rho l x,entM l (look ms' x)) :: zab4 l ms' xs
def mwM (m:Nat→MS) (l:List (Nat×Nat)) (vals as:List A) (ms ms':List (Nat×Row)) (k k':Nat):List (Nat×MS) :=
 zO1 m (fzM vals as)++zab4 l ms' (ms.map (·.1)++(List.range (k' - k)).map (k+·))
def MS.like:MS→MS→Prop
 | .row r,.row r'=>r.ro=r'.ro∧r.sz=r'.sz∧r.es=r'.es
 | .dead,.dead=>True
 | _,_=>False
def zaP7 (m:Nat→MS):List (Nat×MS)→Prop
 | []=>True
 | q :: r=>(m q.1).like q.2∧zaP7 m r
def zas9 (C:Cx) (m:Nat→MS) (nx:Nat) (f:FuncId) (vals:List A) (og:Option (Nat×Bool)) (g:Bool) (ob:Prop) (F:Nat→Prop) (K:A→List (Nat×MS)→Prop):Prop :=
 ∃ l as ms k r ms' k',(g=true→ob∧MFn C f as ms k r ms' k'∧okM m nx l vals as ms k k'∧F (k' - k))∧(g=false→k=k'∧zaP7 m (mwM m (l++newL k nx (k' - k)) vals as ms ms' k k')) ∧
  (og=none∨(renR (l++newL k nx (k' - k)) r).isVV=true)∧(∀ g c,r≠.cnd g c)∧K (zK1 og g (renR (l++newL k nx (k' - k)) r)) (mwM m (l++newL k nx (k' - k)) vals as ms ms' k k')
def PO.lax:PO→Bool
 | .len|.bin _|.not=>true
 | _=>false
theorem zeH5 {id id':Nat} {m:Nat→MS} {po:PO} {vals:List A} (h:po.lax=true):ev id m po vals=ev id' m po vals:=by
 cases po <;> first|(cases h; done)|rfl|(rcases vals with _|⟨x,_|⟨y,_|⟨z,xs⟩⟩⟩ <;> first|rfl|(cases x <;> first|rfl|(cases y <;> rfl)))
def aop (C:Cx) (p:POp) (st:St) (K:St→Prop):Prop :=
 match zI4 st p.g with
 | none=>False
 | some g =>
  match p.po with
  | .pick=>match p.xs with
   | [c,x,y]=>match (xv C.G st.slot c).nc,(xv C.G st.slot x).nc,(xv C.G st.slot y).nc with
    | .bool b,.bool u,.bool v=>(g=true→(xv C.G st.slot c).gd=true∧(b=true→(xv C.G st.slot x).gd=true)∧(b=false→(xv C.G st.slot y).gd=true))∧K (st.app p.dst (zK1 p.g g (.bool (cond b u v))) [])
    | _,_,_=>False
   | _=>False
  | .call f=>∃ r,(g=true→zae9 C st p.xs∧zA0 st.m (zk1 C st p.xs)∧PFn C f (zJ6 st.m (zk1 C st p.xs)) r) ∧
    (p.g=none∨zF3 st.m (zk1 C st p.xs) r=[]∧r.isVV=true)∧K (st.app p.dst (zK1 p.g g r) (zF3 st.m (zk1 C st p.xs) r))
  | .callv=>match zk1 C st p.xs with
   | .clo f caps :: vals=>∃ r,(g=true→zae9 C st p.xs∧zQ8 C.P f=true∧zA0 st.m (vals++caps)∧PFn C f (zJ6 st.m (vals++caps)) r) ∧
    (p.g=none∨zF3 st.m (vals++caps) r=[]∧r.isVV=true)∧K (st.app p.dst (zK1 p.g g r) (zF3 st.m (vals++caps) r))
   | _=>False
  | .callm f=>zas9 C st.m st.nx f (zk1 C st p.xs) p.g g (zae9 C st p.xs) (fun _=>True) fun v mw=>K (st.app p.dst v mw)
  | .callvm=>match zk1 C st p.xs with
   | .clo f caps :: vals=>zas9 C st.m st.nx f (vals++caps) p.g g (zae9 C st p.xs∧zQ8 C.P f=true) (fun _=>True) fun v mw=>K (st.app p.dst v mw)
   | _=>False
  | po=>match ev st.nx st.m po (zk1 C st p.xs) with
   | some ef=>(g=true→zae9 C st p.xs∧ef.obl)∧(p.g=none∨ef.mw=[]∧ef.v.isVV=true)∧K (st.app p.dst (zK1 p.g g ef.v) ef.mw)
   | none=>g=false∧po.lax=true∧K (st.app p.dst (zK1 p.g g (.bool false)) [])
def zH3 (fr:Nat→A):Option (Nat×Bool)→Option Bool
 | none=>some true
 | some q=>match fr q.1 with
  | .bool b=>some (if q.2 then b else !b)
  | .cnd g (.bool b)=>some (g&&if q.2 then b else !b)
  | _=>none
def zE2 (C:Cx) (fr:Nat→A):List PX→List A
 | []=>[]
 | p :: ps=>(xv C.G fr p).nc :: zE2 C fr ps
def gdsF (C:Cx) (fr:Nat→A):List PX→Prop
 | []=>True
 | p :: ps=>(xv C.G fr p).gd=true∧gdsF C fr ps
def aopS (C:Cx) (p:POp) (s:S) (id:Nat) (K:A→List (Nat×MS)→Prop):Prop :=
 match zH3 s.fr p.g with
 | none=>False
 | some g =>
  match p.po with
  | .pick=>match p.xs with
   | [c,x,y]=>match (xv C.G s.fr c).nc,(xv C.G s.fr x).nc,(xv C.G s.fr y).nc with
    | .bool b,.bool u,.bool v=>(g=true→(xv C.G s.fr c).gd=true∧(b=true→(xv C.G s.fr x).gd=true)∧(b=false→(xv C.G s.fr y).gd=true))∧K (zK1 p.g g (.bool (cond b u v))) []
    | _,_,_=>False
   | _=>False
  | .call f=>∃ r,(g=true→gdsF C s.fr p.xs∧zA0 s.mem (zE2 C s.fr p.xs)∧PFn C f (zJ6 s.mem (zE2 C s.fr p.xs)) r) ∧
    (p.g=none∨zF3 s.mem (zE2 C s.fr p.xs) r=[]∧r.isVV=true)∧K (zK1 p.g g r) (zF3 s.mem (zE2 C s.fr p.xs) r)
  | .callv=>match zE2 C s.fr p.xs with
   | .clo f caps :: vals=>∃ r,(g=true→gdsF C s.fr p.xs∧zQ8 C.P f=true∧zA0 s.mem (vals++caps)∧PFn C f (zJ6 s.mem (vals++caps)) r) ∧
    (p.g=none∨zF3 s.mem (vals++caps) r=[]∧r.isVV=true)∧K (zK1 p.g g r) (zF3 s.mem (vals++caps) r)
   | _=>False
  | .callm f=>zas9 C s.mem id f (zE2 C s.fr p.xs) p.g g (gdsF C s.fr p.xs) (fun n=>∀ x,id≤x→x < id+n→s.mem x=.fresh) K
  | .callvm=>match zE2 C s.fr p.xs with
   | .clo f caps :: vals=>zas9 C s.mem id f (vals++caps) p.g g (gdsF C s.fr p.xs∧zQ8 C.P f=true) (fun n=>∀ x,id≤x→x < id+n→s.mem x=.fresh) K
   | _=>False
  | po=>match ev id s.mem po (zE2 C s.fr p.xs) with
   | some ef=>(g=true→gdsF C s.fr p.xs∧ef.obl)∧(p.g=none∨ef.mw=[]∧ef.v.isVV=true)∧K (zK1 p.g g ef.v) ef.mw
   | none=>g=false∧po.lax=true∧K (zK1 p.g g (.bool false)) []
def nilQ (K:Bool→Prop):List A→Prop
 | [.sl es]=>∀ b:Bool,(b=true→es=[])→K b
 | [.full es]=>∀ b:Bool,(b=true→es=[])→K b
 | _=>False
def PO.isNilQ:PO→Bool
 | .eqNil=>true
 | _=>false
def arun (C:Cx):List POp→St→(St→Prop)→Prop
 | [],st,K=>K st
 | p :: ps,st,K=>if p.po.isNilQ=true then p.g=none∧zae9 C st p.xs∧nilQ (fun b=>arun C ps (st.app p.dst (.bool b) []) K) (zk1 C st p.xs) else aop C p st fun st'=>arun C ps st' K
theorem zak1 {α:Type} (n x:Nat):∀ l:List (Nat×α),look (rm n l) x=if x=n then none else look l x
 | []=>by simp [rm,look]
 | q :: r=>by
  unfold rm
  split
  ·rename_i h
   rw [zak1 n x r]
   by_cases hx:x=n
   ·simp [hx]
   ·rw [if_neg hx,if_neg hx]
    simp only [look]
    rw [if_neg (by omega)]
  ·rename_i h
   simp only [look]
   split
   ·rename_i h2
    rw [if_neg (by omega)]
   ·exact zak1 n x r
theorem zbB7 (st:St) (d:Option Nat) (v:A) (mw:List (Nat×MS)):(st.app d v mw).slot=setF st.slot d v:=by
 funext t
 simp only [St.slot,St.app,setF,putF]
 cases d with
 | none=>simp
 | some d =>
  simp only [look,Option.some.injEq]
  split
  ·rfl
  ·rename_i h
   rw [zak1,if_neg (by omega)]
def mwOk:Nat→List (Nat×MS)→Prop
 | _,[]=>True
 | nx,q :: r=>q.1≤nx∧q.2≠.fresh∧mwOk (if q.1=nx then nx+1 else nx) r
theorem zbs6 {m:Nat→MS} (x:Nat):∀ {mw:List (Nat×MS)} (m':Nat→MS),zaP7 m mw→setM m' mw x=m' x∨(m x).like (setM m' mw x)
 | [],_,_=>.inl rfl
 | q :: r,m',h=>by
  simp only [setM]
  rcases zbs6 x (fun x=>if x=q.1 then q.2 else m' x) h.2 with e|e
  ·rw [e]
   by_cases hx:x=q.1
   ·subst hx; rw [if_pos rfl]; exact .inr h.1
   ·rw [if_neg hx]; exact .inl rfl
  ·exact .inr e
theorem zac0.like {w:World} {W:Nat→Prop} {μ:Nat→Loc} {x:Nat} {p q:MS} (h:zac0 w W μ x p) (hl:p.like q):zac0 w W μ x q:=by
 cases p <;> cases q <;> first|exact hl.elim|exact h|skip
 rename_i r r'
 obtain ⟨ro,sz,z,es⟩:=r
 obtain ⟨ro',sz',z',es'⟩:=r'
 obtain ⟨rfl,rfl,rfl⟩:=hl
 exact h
theorem MS.like_ne {p q:MS} (h:p.like q):p≠.fresh∧q≠.fresh:=by
 cases p <;> cases q <;> first|exact h.elim|exact ⟨(nomatch ·),(nomatch ·)⟩
theorem zbG9:∀ (mw:List (Nat×MS)) (fr:List (Nat×A)) (mem:List (Nat×Row)) (nx:Nat),mwOk nx mw→∀ f2,(⟨f2,putM mw mem,nxt nx mw⟩:St).m=setM (⟨fr,mem,nx⟩:St).m mw
 | [],fr,mem,nx,_,f2=>by simp [putM,nxt,setM,St.m]; rfl
 | q :: r,fr,mem,nx,h,f2=>by
  obtain ⟨h1,h2,h3⟩:=h
  have e:(fun x=>if x=q.1 then q.2 else (⟨fr,mem,nx⟩:St).m x)=(⟨fr,(match q with|(x,.row r)=>(x,r) :: rm x mem|(x,_)=>rm x mem),if q.1=nx then nx+1 else nx⟩:St).m:=by
   funext x
   obtain ⟨y,q2⟩:=q
   simp only at h1 h2
   by_cases hx:x=y
   ·subst hx
    rw [if_pos rfl]
    cases q2 with
    | fresh=>exact absurd rfl h2
    | dead=>simp only [St.m,zak1,if_true]; rw [if_neg (by split <;> omega)]
    | row r=>simp only [St.m,look,if_true]; rw [if_neg (by split <;> omega)]
   ·rw [if_neg hx]
    cases q2 with
    | fresh=>exact absurd rfl h2
    | dead =>
     simp only [St.m,zak1,hx,if_false]
     split
     ·rename_i hh; rw [if_pos (by split <;> omega)]
     ·rename_i hh; rw [if_neg (by split <;> omega)]
    | row r =>
     simp only [St.m,look,zak1,hx,if_false,show ¬ y=x by omega]
     split
     ·rename_i hh; rw [if_pos (by split <;> omega)]
     ·rename_i hh; rw [if_neg (by split <;> omega)]
  simp only [setM,nxt]
  rw [e]
  obtain ⟨y,q2⟩:=q
  cases q2 with
  | fresh=>exact absurd rfl h2
  | dead=>exact zbG9 r fr _ _ h3 f2
  | row r'=>exact zbG9 r fr _ _ h3 f2
end Ab
end Go.Proofs.YtebopmkhhppfaaaGreatDoor
