import Derived.Test.YtcggeefhhegeoaaGreatDoorAb4
namespace Go.Proofs.YtcggeefhhegeoaaGreatDoor
namespace Ab
set_option linter.unusedSimpArgs false
set_option linter.unusedVariables false
def aggD:TypeDesc→Bool
 | .struct _|.array _ _=>true
 | _=>false
def tyOk (P:Program) (T:TypeId) (ag:Bool) (n:Nat):Bool :=
 (match P.underlying T with|some d=>aggD d == ag|none=>false)&&(match P.info? T with|some i=>i.size == n|none=>false)&&(ag||n == 1)
section
variable {P:Program} {o:Oper} {a:Act} {E:Env} {s:S} {w:World} {W:Nat→Prop} {μ:Nat→Loc}
theorem zas5 {T:TypeId} {d:TypeDesc} (h:P.underlying T=some d) (w:World):(isAgg T).run P w=.ok (aggD d) w:=by
 unfold isAgg
 simp only [Sem.run_bind,run_underlying h,Result.andThen_ok]
 cases d <;> rfl
theorem zP3 {T:TypeId} {i:TypeInfo} (h:P.info? T=some i) (w:World):(sizeOf T).run P w=.ok i.size w:=by
 simp [sizeOf,typeInfo,h]
theorem zck1 {T:TypeId} {ag:Bool} {n:Nat} (hT:tyOk P T ag n=true) {b q:Nat} {vs:List Value} (hl:vs.length=n) (hc:∀ (i:Nat) (u:Value),vs[i]? = some u→w.cell? ⟨b,q+i,none⟩=some u) :
  (Instr.loadAt T (.pointer (some ⟨b,q,none⟩))).run P w=.ok (if ag then .agg vs.toArray else vs.headD undef) w:=by
 unfold tyOk at hT
 simp only [Bool.and_eq_true] at hT
 obtain ⟨⟨h1,h2⟩,h3⟩:=hT
 cases hu:P.underlying T with
 | none=>simp [hu] at h1
 | some d =>
  cases hi:P.info? T with
  | none=>simp [hi] at h2
  | some i =>
   simp [hu] at h1
   simp [hi] at h2
   subst h2
   have hcs:∀ (j:Nat) (v:Value),vs[j]? = some v→w.cell? ((⟨b,q,none⟩:Addr).add j)=some v:=fun j v hj=>by
    rw [Addr.add_lit]; exact hc j v hj
   cases ag with
   | true =>
    have:=run_loadCells_list (P:=P) w ⟨b,q,none⟩ vs hcs
    rw [hl] at this
    simp [Instr.loadAt,Instr.sureAddr,loadVar,zas5 hu,h1,zP3 hi,this]
   | false =>
    simp at h3
    match vs,hl with
    | [v],_ =>
     have:=hc 0 v rfl
     simp [Instr.loadAt,Instr.sureAddr,loadVar,zas5 hu,h1]
     rw [Nat.add_zero] at this
     simp [this]
    | [],h=>simp [h3] at h
    | _ :: _ :: _,h=>simp [h3] at h
theorem zbb7 {ag:Bool} {n:Nat} {vs:List Value} {cs:List A} (hn:ag=false→n=1) (hl:vs.length=n) (hc:cs.length=n) (hr:∀ (i:Nat) (u:Value) (b:A),vs[i]? = some u→cs[i]? = some b→RepK w W μ u b) :
  Rep w W μ (if ag then .agg vs.toArray else vs.headD undef) (zaU2 ag cs):=by
 cases ag with
 | true=>exact ⟨vs,rfl,by omega,hr⟩
 | false =>
  have h1:=hn rfl
  subst h1
  match vs,cs,hl,hc with
  | [v],[c],_,_=>exact zr1 (zq5 (hr 0 v c rfl rfl))
theorem zbI2 {T:TypeId} {ag:Bool} {n:Nat} (h:tyOk P T ag n=true):ag=false→n=1:=by
 intro ha
 unfold tyOk at h
 simp only [Bool.and_eq_true] at h
 simpa [ha] using h.2
theorem zaU4 {cs:List A} {off n:Nat} (h:off+n≤cs.length):(sub cs off n).length=n:=by
 simp [sub]; omega
theorem getElem?_sub (cs:List A) (off n i:Nat):(sub cs off n)[i]? = if i < n then cs[off+i]? else none:=by
 simp only [sub,List.getElem?_take,List.getElem?_drop]
theorem SatW.ptr (hs:SatW E s a w W μ) {v:Value} {y i j:Nat} {r:Row} (hx:Rep w W μ v (.ptr y i j)) (hr:s.mem y=.row r) :
  ∃ k,μ y=.at_ k∧v=.pointer (some ⟨k.b,i * k.sz+j,none⟩)∧zaP9 w W μ r k:=by
 obtain ⟨_,hk⟩:RepK w W μ v (.ptr y i j):=hx
 have hm:=hs.mem y
 rw [hr] at hm
 rcases hm with ⟨h3,_⟩|⟨k,h3,h4⟩
 ·rw [h3] at hk; exact hk.elim
 ·rw [h3] at hk; exact ⟨k,h3,hk,h4⟩
theorem zbq1 {y:Nat} {k:Blk} (h:μ y=.at_ k) (i j:Nat):Rep w W μ (.pointer (some ⟨k.b,i * k.sz+j,none⟩)) (.ptr y i j):=by
 refine (show RepK w W μ _ (.ptr y i j) from ⟨rfl,?_⟩)
 rw [h]
theorem SatW.own (hs:SatW E s a w W μ) {v:Value} {y lo n:Nat} {r:Row} (hx:Rep w W μ v (.own y lo n)) (hr:s.mem y=.row r) :
  (n=0∧∃ a,v=.slice a 0 0)∨∃ k cap,μ y=.at_ k∧v=.slice (some ⟨k.b,lo * k.sz,none⟩) n cap∧(lo+cap) * k.sz≤k.tot∧n≤cap∧lo+cap≤maxLen∧zaP9 w W μ r k:=by
 obtain ⟨_,hk⟩:RepK w W μ v (.own y lo n):=hx
 have hm:=hs.mem y
 rw [hr] at hm
 rcases hm with ⟨h3,_⟩|⟨k,h3,h4⟩
 ·rw [h3] at hk; exact .inl hk
 ·rw [h3] at hk
  rcases hk with hk|⟨cap,h5,h6,h7,h8⟩
  ·exact .inl hk
  ·exact .inr ⟨k,cap,h3,h5,h6,h7,h8,h4⟩
theorem zck2 {id:Nat} (hs:SatW E s a w W μ) {vx:Value} {T:TypeId} {ag:Bool} {n:Nat} {av:A} {ef:Ef} (hT:tyOk P T ag n=true) (hx:Rep w W μ vx av)
  (he:ev id s.mem (.load n ag) [av]=some ef) (hobl:ef.obl):∃ b q u,vx=.pointer (some ⟨b,q,none⟩)∧(loadVar T ⟨b,q,none⟩).run P w=.ok u w∧Rep w W μ u ef.v:=by
 have fin:∀ (b q:Nat) (vs:List Value) (cs:List A),vx=.pointer (some ⟨b,q,none⟩)→vs.length=n→cs.length=n→(∀ (i:Nat) (u:Value),vs[i]? = some u→w.cell? ⟨b,q+i,none⟩=some u) →
   (∀ (i:Nat) (u:Value) (b:A),vs[i]? = some u→cs[i]? = some b→RepK w W μ u b)→ef.v=zaU2 ag cs→∃ b q u,vx=.pointer (some ⟨b,q,none⟩)∧(loadVar T ⟨b,q,none⟩).run P w=.ok u w∧Rep w W μ u ef.v:=fun b q vs cs h1 h2 h3 h4 h5 h6=>by
  rw [h6]
  exact ⟨b,q,if ag then .agg vs.toArray else vs.headD undef,h1,zck1 hT h2 h4,zbb7 (zbI2 hT) h2 h3 h5⟩
 cases av <;> simp only [ev] at he <;> try (cases he; done)
 ·rename_i y i j
  split at he
  ·rename_i r hr
   cases he
   obtain ⟨h1,h2⟩:=hobl
   have hk:RepK w W μ (vx) (.ptr y i j):=hx
   obtain ⟨_,hk⟩:=hk
   have hm:=hs.mem y
   rw [hr] at hm
   rcases hm with ⟨h3,h4,_⟩|⟨k,h3,_,h5,h6,us,rest,e,h7,h8,hf⟩
   ·simp [h4] at h1
   ·rw [h3] at hk
    simp only at hk
    have hc:r.es[i]? = some (r.es.getD i r.z):=by simp [h1]
    have hlen:=hf.hs i _ hc
    have hsp:=hf.split hc
    refine fin k.b (i * k.sz+j) ((((us.drop (i * r.sz)).take r.sz).drop j).take n) _ hk ?_ (zaU4 (by omega)) ?_ ?_ rfl
    ·have:=hsp.hl
     simp only [List.length_take,List.length_drop] at this ⊢
     simp at this; omega
    ·intro q u hq
     rw [List.getElem?_take] at hq
     split at hq
     ·rename_i hqn
      rw [List.getElem?_drop,List.getElem?_take] at hq
      split at hq
      ·rw [List.getElem?_drop] at hq
       simp only [World.cell?,h7,h5]
       have:i * r.sz+j+q=i * r.sz+(j+q):=by omega
       simp only [this,Option.isSome_none,Bool.false_eq_true,if_false,List.getElem?_toArray]
       rw [List.getElem?_append_left (List.getElem?_eq_some_iff.1 hq).1,hq]
      ·cases hq
     ·cases hq
    ·intro q u b hq hb
     rw [getElem?_sub] at hb
     split at hb
     ·rename_i hqn
      rw [List.getElem?_take,if_pos hqn,List.getElem?_drop] at hq
      obtain ⟨u',hu',hr'⟩:=hsp.ha 0 _ (j+q) b rfl hb
      simp only [Nat.zero_mul,Nat.zero_add] at hu'
      rw [hq] at hu'
      cases hu'
      exact hr'
     ·cases hb
  ·cases he
 ·rename_i cs off
  cases he
  obtain ⟨b,q,hv,hb,hlt,hc⟩:RepK w W μ (vx) (.rd cs off):=hx
  have hlen:off+n≤cs.length:=hobl
  have:∃ vs:List Value,vs.length=n∧∀ i,i < n→∃ c,cs[off+i]? = some c∧w.cell? ⟨b,q+(off+i),none⟩=some (vs.getD i undef)∧RepC w W (vs.getD i undef) c:=by
   refine ⟨(List.range n).map fun i=>(w.cell? ⟨b,q+(off+i),none⟩).getD undef,by simp,fun i hi=>?_⟩
   have hlt:off+i < cs.length:=by omega
   obtain ⟨u,hu,hr⟩:=hc (off+i) cs[off+i] (by simp [hlt])
   refine ⟨cs[off+i],by simp [hlt],?_,?_⟩
   ·simp [hi,hu]
   ·simpa [hi,hu] using hr
  obtain ⟨vs,hl,hvs⟩:=this
  refine fin b (q+off) vs _ hv hl (zaU4 hlen) ?_ ?_ rfl
  ·intro i u hi
   obtain ⟨c,_,h2,_⟩:=hvs i (by have:=(List.getElem?_eq_some_iff.1 hi).1; omega)
   rw [Nat.add_assoc,h2]
   simp [hi]
  ·intro i u c hi hc
   obtain ⟨c',h1,_,h3⟩:=hvs i (by have:=(List.getElem?_eq_some_iff.1 hi).1; omega)
   rw [getElem?_sub] at hc
   split at hc
   ·rw [h1] at hc; cases hc
    simp [hi] at h3
    exact zs2 h3
   ·cases hc
theorem zdp2 {id:Nat} (hs:SatW E s a w W μ) {x:Operand} {T:TypeId} {ag:Bool} {n:Nat} {av:A} {ef:Ef} (ho:o.op=.load T x) (hT:tyOk P T ag n=true) (hx:Rep w W μ (a.eval x) av)
  (he:ev id s.mem (.load n ag) [av]=some ef) (hobl:ef.obl):zq9 P o a w W μ s.mem ef.v s.mem:=by
 obtain ⟨b,q,u,h1,h2,h3⟩:=zck2 hs hT hx he hobl
 refine hs.still (v:=u) ?_ h3
 simp only [execOp,ho,h1,Sem.run_bind]
 show (((loadVar T ⟨b,q,none⟩).run P w).andThen _)=_
 rw [h2]
 rfl
def zbG2 (P:Program) (T:TypeId) (f off:Nat):Bool :=
 match P.underlying T with
 | some (.struct fs)=>match fs[f]? with
  | some g=>g.offset == off&&(match P.info? g.type with|some i=>i.size != 0|none=>false)
  | none=>false
 | _=>false
theorem zck3 {T:TypeId} {f off b q:Nat} (h:zbG2 P T f off=true):(Instr.fieldAt T (.pointer (some ⟨b,q,none⟩)) f).run P w=.ok (.pointer (some ⟨b,q+off,none⟩)) w:=by
 unfold zbG2 at h
 split at h
 ·rename_i fs hu
  split at h
  ·rename_i g hg
   simp only [Bool.and_eq_true] at h
   obtain ⟨h1,h2⟩:=h
   split at h2
   ·rename_i i hi
    simp at h1 h2
    subst h1
    simp [Instr.fieldAt,run_underlying hu,hg,Instr.sureAddr,fieldPlace,zP3 hi,h2,Addr.add_lit]
   ·cases h2
  ·cases h
 ·cases h
theorem zdi0 {id:Nat} (hs:SatW E s a w W μ) {x:Operand} {T:TypeId} {f off:Nat} {av:A} {ef:Ef} (ho:o.op=.fieldAddr T x f) (hT:zbG2 P T f off=true) (hx:Rep w W μ (a.eval x) av)
  (he:ev id s.mem (.faddr off) [av]=some ef):zq9 P o a w W μ s.mem ef.v s.mem:=by
 have fin:∀ b q,a.eval x=.pointer (some ⟨b,q,none⟩)→Rep w W μ (.pointer (some ⟨b,q+off,none⟩)) ef.v→zq9 P o a w W μ s.mem ef.v s.mem:=fun b q h1 h2 =>
  hs.still (by simp only [execOp,ho,h1,Sem.run_bind,zck3 hT,Result.andThen_ok,Sem.run_pure]) h2
 cases av <;> simp only [ev] at he <;> try (cases he; done)
 ·rename_i y i j
  split at he
  ·rename_i r hr
   cases he
   obtain ⟨k,h3,hk,_⟩:=hs.ptr hx hr
   exact fin _ _ hk (by rw [Nat.add_assoc]; exact zbq1 h3 i (j+off))
  ·cases he
 ·rename_i cs q
  cases he
  obtain ⟨b,q',hv,hb,hlt,hc⟩:RepK w W μ (a.eval x) (.rd cs q):=hx
  exact fin _ _ hv (show RepK w W μ _ (.rd cs (q+off)) from ⟨b,q',by rw [Nat.add_assoc],hb,hlt,hc⟩)
end
section
variable {P:Program} {o:Oper} {a:Act} {E:Env} {s:S} {w:World} {W:Nat→Prop} {μ:Nat→Loc}
def szIs (P:Program) (e:TypeId) (sz:Nat):Bool:=match P.info? e with|some i=>i.size == sz|none=>false
theorem zau2 {e:TypeId} {sz:Nat} (h:szIs P e sz=true) (w:World):(sizeOf e).run P w=.ok sz w:=by
 unfold szIs at h
 split at h
 ·rename_i i hi; simp at h; subst h; exact zP3 hi w
 ·cases h
def zcC9 (P:Program) (T:TypeId) (n sz:Nat):Bool:=match P.underlying T with|some (.array m e)=>m == n&&szIs P e sz|_=>false
def zbX2 (P:Program) (T:TypeId) (sz:Nat):Bool:=match P.underlying T with|some (.slice e)=>szIs P e sz|_=>false
theorem zcv1 {T:TypeId} {n sz:Nat} (h:zcC9 P T n sz=true):∃ e,P.underlying T=some (.array n e)∧szIs P e sz=true:=by
 unfold zcC9 at h
 split at h
 ·rename_i m e hu; simp at h; obtain ⟨rfl,h⟩:=h; exact ⟨e,hu,h⟩
 ·cases h
theorem zbI3 {T:TypeId} {sz:Nat} (h:zbX2 P T sz=true):∃ e,P.underlying T=some (.slice e)∧szIs P e sz=true:=by
 unfold zbX2 at h
 split at h
 ·rename_i e hu; exact ⟨e,hu,h⟩
 ·cases h
theorem zdv2 {id:Nat} (hs:SatW E s a w W μ) {x i:Operand} {T:TypeId} {n sz:Nat} {ax ai:A} {ef:Ef} (ho:o.op=.indexAddr T x i) (hT:zcC9 P T n sz=true) (hx:Rep w W μ (a.eval x) ax) (hi:Rep w W μ (a.eval i) ai)
  (he:ev id s.mem (.iaA n sz) [ax,ai]=some ef) (hobl:ef.obl):zq9 P o a w W μ s.mem ef.v s.mem:=by
 obtain ⟨e,hu,hz⟩:=zcv1 hT
 cases ai <;> try (simp only [ev] at he; cases he; done)
 rename_i k q
 have fin:∀ (b p:Nat),a.eval x=.pointer (some ⟨b,p,none⟩)→0≤q→q < n→Rep w W μ (.pointer (some ⟨b,p+q.toNat * sz,none⟩)) ef.v→zq9 P o a w W μ s.mem ef.v s.mem:=fun b p h1 h2 h3 h4 =>
  hs.still (v:=.pointer (some ⟨b,p+q.toNat * sz,none⟩)) (by simp [execOp,ho,h1,hi.int,Instr.indexAt,asIntOf,run_underlying hu,Instr.sureAddr,h2,h3,zau2 hz,Addr.add_lit]) h4
 cases ax <;> simp only [ev] at he <;> try (cases he; done)
 ·rename_i y i j
  split at he
  ·rename_i r hr
   cases he
   have hcl:zL5 q.toNat n=q.toNat:=by unfold zL5; rw [if_pos (by have:=hobl.1; have:=hobl.2; omega)]
   simp only [hcl] at fin ⊢
   obtain ⟨k',h3,hk,_⟩:=hs.ptr hx hr
   exact fin _ _ hk hobl.1 hobl.2 (by rw [Nat.add_assoc]; exact zbq1 h3 i _)
  ·cases he
 ·rename_i cs p
  cases he
  have hcl:zL5 q.toNat n=q.toNat:=by unfold zL5; rw [if_pos (by have:=hobl.1; have:=hobl.2; omega)]
  simp only [hcl] at fin ⊢
  obtain ⟨b,q',hv,hb,hlt,hc⟩:RepK w W μ (a.eval x) (.rd cs p):=hx
  exact fin _ _ hv hobl.1 hobl.2 (show RepK w W μ _ (.rd cs _) from ⟨b,q',by rw [Nat.add_assoc],hb,hlt,hc⟩)
theorem zdv3 {id:Nat} (hs:SatW E s a w W μ) {x i:Operand} {T:TypeId} {sz:Nat} {z:List A} {ax ai:A} {ef:Ef} (ho:o.op=.indexAddr T x i) (hT:zbX2 P T sz=true) (hx:Rep w W μ (a.eval x) ax) (hi:Rep w W μ (a.eval i) ai)
  (he:ev id s.mem (.iaS sz z) [ax,ai]=some ef) (hobl:ef.obl):zq9 P o a w W μ s.mem ef.v s.mem:=by
 obtain ⟨e,hu,hz⟩:=zbI3 hT
 cases ai <;> try (simp only [ev] at he; cases he; done)
 rename_i k q
 have fin:∀ (b p n c:Nat),a.eval x=.slice (some ⟨b,p,none⟩) n c→0≤q→q < n→Rep w W μ (.pointer (some ⟨b,p+q.toNat * sz,none⟩)) ef.v→zq9 P o a w W μ s.mem ef.v s.mem:=fun b p n c h1 h2 h3 h4 =>
  hs.still (v:=.pointer (some ⟨b,p+q.toNat * sz,none⟩)) (by simp [execOp,ho,h1,hi.int,Instr.indexAt,asIntOf,run_underlying hu,h2,h3,zau2 hz,Addr.add_lit]) h4
 have plain:∀ es,RepC w W (a.eval x) (.sl es)→(0≤q∧q < es.length∧(es.getD q.toNat z).length=sz)→ef.v=.rd (es.getD q.toNat z) 0→zq9 P o a w W μ s.mem ef.v s.mem:=fun es h1 h2 h3=>by
  obtain ⟨h4,h5,h6⟩:=h2
  rcases h1.open_sl with ⟨rfl,_⟩|⟨b,off,cap,sz',us,hv,hb,hlt,hn,hcap,hf,hc⟩
  ·simp at h5; omega
  ·have hqn:q.toNat < es.length:=by omega
   have hce:es[q.toNat]? = some (es.getD q.toNat z):=by simp [hqn]
   have hsz:sz'=sz:=by rw [← hf.hs _ _ hce,h6]
   subst hsz
   refine fin b off _ _ hv h4 h5 ?_
   rw [h3]
   refine (show RepK w W μ _ (.rd _ 0) from ⟨b,off+q.toNat * sz',by simp,hb,hlt,fun j c hj=>?_⟩)
   obtain ⟨u,hu',hr⟩:=hf.ha _ _ _ _ hce hj
   exact ⟨u,by rw [Nat.add_assoc]; exact hc _ _ hu',hr⟩
 cases ax <;> simp only [ev] at he <;> try (cases he; done)
 ·rename_i es
  cases he
  exact plain es hx hobl rfl
 ·rename_i es
  cases he
  exact plain es (RepC.of_full hx).1 hobl rfl
 ·rename_i y lo n
  split at he
  ·rename_i r hr
   cases he
   obtain ⟨h1,h2,h3⟩:=hobl
   rcases hs.own hx hr with ⟨rfl,_⟩|⟨k',cap,h4,h5,h6,h7,h8,hrow⟩
   ·simp at h2; omega
   ·have hsz:k'.sz=sz:=hrow.2.1.trans h3
    refine fin _ _ _ _ h5 h1 h2 ?_
    have:=zbq1 (w:=w) (W:=W) h4 (lo+q.toNat) 0
    rw [Nat.add_zero,Nat.add_mul,hsz] at this
    rw [hsz]
    exact this
  ·cases he
theorem zaO9 {vs:List Value} {i:Nat} (h:i < vs.length):(vs.drop i).take 1=[vs[i]]:=by
 rw [List.drop_eq_getElem_cons h,List.take_succ_cons,List.take_zero]
theorem zdp3 {id:Nat} (hs:SatW E s a w W μ) {x i:Operand} {T:TypeId} {n sz:Nat} {ag:Bool} {ax ai:A} {ef:Ef} (ho:o.op=.index T x i) (hT:(match P.underlying T with|some (.array m e)=>m == n&&tyOk P e ag sz|_=>false)=true) (hx:Rep w W μ (a.eval x) ax) (hi:Rep w W μ (a.eval i) ai)
  (he:ev id s.mem (.idxA n sz ag) [ax,ai]=some ef) (hobl:ef.obl):zq9 P o a w W μ s.mem ef.v s.mem:=by
 cases ax <;> cases ai <;> simp only [ev] at he <;> try (cases he; done)
 rename_i cs k q
 cases he
 obtain ⟨h1,h2,h3⟩:=hobl
 have hcl:zL5 q.toNat n=q.toNat:=by unfold zL5; rw [if_pos (by omega)]
 simp only [hcl]
 clear hcl
 split at hT
 ·rename_i m e hu
  simp only [Bool.and_eq_true,beq_iff_eq] at hT
  obtain ⟨rfl,hT⟩:=hT
  obtain ⟨vs,hv,hl,hr⟩:RepV w W μ (a.eval x) (.agg cs):=hx
  have hq:q.toNat < m:=by omega
  have hle:q.toNat * sz+sz≤cs.length:=by
   have:(q.toNat+1) * sz≤m * sz:=Nat.mul_le_mul_right _ hq
   rw [Nat.add_mul] at this; omega
  have hpart:(part e vs.toArray (q.toNat * sz)).run P w=.ok (if ag then .agg ((vs.drop (q.toNat * sz)).take sz).toArray else ((vs.drop (q.toNat * sz)).take sz).headD undef) w:=by
   have hT':=hT
   unfold tyOk at hT
   simp only [Bool.and_eq_true] at hT
   obtain ⟨⟨h4,h5⟩,h6⟩:=hT
   cases hu':P.underlying e with
   | none=>simp [hu'] at h4
   | some d =>
    cases hi':P.info? e with
    | none=>simp [hi'] at h5
    | some i' =>
     simp [hu'] at h4
     simp [hi'] at h5
     subst h5
     cases ag with
     | true=>simp [part,zas5 hu',h4,zP3 hi']
     | false =>
      simp at h6
      have hlt:q.toNat * i'.size < vs.length:=by omega
      simp only [part,Sem.run_bind,zas5 hu',h4,Result.andThen_ok,Bool.false_eq_true,if_false]
      rw [h6] at hlt ⊢
      simp only [Nat.mul_one] at hlt ⊢
      have:=zaO9 hlt
      simp [this,hlt]
  refine hs.still (v:=if ag then .agg ((vs.drop (q.toNat * sz)).take sz).toArray else ((vs.drop (q.toNat * sz)).take sz).headD undef) ?_
   (zbb7 (zbI2 hT) (by simp; omega) (zaU4 hle) fun i u b hi hb=>?_)
  ·have hz:(sizeOf e).run P w=.ok sz w:=by
    unfold tyOk at hT
    simp only [Bool.and_eq_true] at hT
    cases hi':P.info? e with
    | none=>simp [hi'] at hT
    | some i'=>simp [hi'] at hT; rw [← hT.1.2]; exact zP3 hi' w
   simp [execOp,ho,hv,hi.int,Instr.index,asIntOf,run_underlying hu,h1,h2,hz,hpart]
  ·rw [getElem?_sub] at hb
   split at hb
   ·rename_i hin
    rw [List.getElem?_take,if_pos hin,List.getElem?_drop] at hi
    exact hr _ u b hi hb
   ·cases hb
 ·cases hT
theorem zdi1 {id:Nat} (hs:SatW E s a w W μ) {x:Operand} {T:TypeId} {f off n:Nat} {ag:Bool} {ax:A} {ef:Ef} (ho:o.op=.field T x f)
  (hT:(match P.underlying T with|some (.struct fs)=>(match fs[f]? with|some g=>g.offset == off&&tyOk P g.type ag n|none=>false)|_=>false)=true) (hx:Rep w W μ (a.eval x) ax)
  (he:ev id s.mem (.field off n ag) [ax]=some ef) (hobl:ef.obl):zq9 P o a w W μ s.mem ef.v s.mem:=by
 cases ax <;> simp only [ev] at he <;> try (cases he; done)
 rename_i cs
 cases he
 have hle:off+n≤cs.length:=hobl
 split at hT
 ·rename_i fs hu
  split at hT
  ·rename_i g hg
   simp only [Bool.and_eq_true,beq_iff_eq] at hT
   obtain ⟨rfl,hT⟩:=hT
   obtain ⟨vs,hv,hl,hr⟩:RepV w W μ (a.eval x) (.agg cs):=hx
   have hpart:(part g.type vs.toArray g.offset).run P w=.ok (if ag then .agg ((vs.drop g.offset).take n).toArray else ((vs.drop g.offset).take n).headD undef) w:=by
    have hT':=hT
    unfold tyOk at hT
    simp only [Bool.and_eq_true] at hT
    obtain ⟨⟨h4,h5⟩,h6⟩:=hT
    cases hu':P.underlying g.type with
    | none=>simp [hu'] at h4
    | some d =>
     cases hi':P.info? g.type with
     | none=>simp [hi'] at h5
     | some i' =>
      simp [hu'] at h4
      simp [hi'] at h5
      subst h5
      cases ag with
      | true=>simp [part,zas5 hu',h4,zP3 hi']
      | false =>
       simp at h6
       have hlt:g.offset < vs.length:=by omega
       simp only [part,Sem.run_bind,zas5 hu',h4,Result.andThen_ok,Bool.false_eq_true,if_false]
       rw [h6]
       have:=zaO9 hlt
       simp [this,hlt]
   refine hs.still (v:=if ag then .agg ((vs.drop g.offset).take n).toArray else ((vs.drop g.offset).take n).headD undef) ?_
    (zbb7 (zbI2 hT) (by simp; omega) (zaU4 hle) fun i u b hi hb=>?_)
   ·simp [execOp,ho,hv,Instr.field,run_underlying hu,hg,asAgg,hpart]
   ·rw [getElem?_sub] at hb
    split at hb
    ·rename_i hin
     rw [List.getElem?_take,if_pos hin,List.getElem?_drop] at hi
     exact hr _ u b hi hb
    ·cases hb
  ·cases hT
 ·cases hT
theorem zdp4 (hs:SatW E s a w W μ) {x:Operand} {T T2:TypeId} {k k2:IntKind} {n:Int} (ho:o.op=.convert T T2 x) (hT:(∃ d,P.underlying T=some d)∧P.underlying T2=some (.int k)) (hx:Rep w W μ (a.eval x) (.int k2 n)) :
  zq9 P o a w W μ s.mem (.int k (k.wrap n)) s.mem:=by
 obtain ⟨⟨d,hd⟩,h2⟩:=hT
 refine hs.still (v:=.int k (k.wrap n)) ?_ (zL9 (.int _ _))
 simp only [execOp,ho,hx.int,convert,Sem.run_bind,run_underlying hd,run_underlying h2,Result.andThen_ok]
 cases d <;> simp [Conv.intToInt]
theorem zdv4 (hs:SatW E s a w W μ) {x y:Operand} {ats:Array TypeId} {k:IntKind} {p q:Int} (ho:o.op=.call { callee:=.builtin .min,args:=#[x,y],argTypes:=ats }) (hx:Rep w W μ (a.eval x) (.int k p)) (hy:Rep w W μ (a.eval y) (.int k q)) :
  zq9 P o a w W μ s.mem (.int k (if q < p then q else p)) s.mem:=by
 refine hs.still (v:=.int k (if q < p then q else p)) ?_ (zL9 (.int _ _))
 simp [execOp,ho,resolve,invoke,builtin,Builtin.min_,hx.int,hy.int,Builtin.min2]
theorem zdv5 (hs:SatW E s a w W μ) {x y:Operand} {ats:Array TypeId} {k:IntKind} {p q:Int} (ho:o.op=.call { callee:=.builtin .max,args:=#[x,y],argTypes:=ats }) (hx:Rep w W μ (a.eval x) (.int k p)) (hy:Rep w W μ (a.eval y) (.int k q)) :
  zq9 P o a w W μ s.mem (.int k (if p < q then q else p)) s.mem:=by
 refine hs.still (v:=.int k (if p < q then q else p)) ?_ (zL9 (.int _ _))
 simp [execOp,ho,resolve,invoke,builtin,Builtin.max_,hx.int,hy.int,Builtin.max2]
theorem zdi2 {id:Nat} (hs:SatW E s a w W μ) {x:Operand} {ax:A} {ef:Ef} (ho:o.op=.nilCheck x) (hx:Rep w W μ (a.eval x) ax) (he:ev id s.mem .nilck [ax]=some ef):zq9 P o a w W μ s.mem ef.v s.mem:=by
 cases ax <;> simp only [ev] at he <;> try (cases he; done)
 ·rename_i y i j
  split at he
  ·rename_i r hr
   cases he
   obtain ⟨k,_,hk,_⟩:=hs.ptr hx hr
   refine hs.still (v:=a.eval x) ?_ hx
   simp [execOp,ho,hk]
  ·cases he
 ·rename_i cs off
  cases he
  have hx':=hx
  obtain ⟨b,q,hv,_⟩:RepK w W μ (a.eval x) (.rd cs off):=hx'
  refine hs.still (v:=a.eval x) ?_ hx
  simp [execOp,ho,hv]
 ·rename_i f cs
  cases he
  have hx':=hx
  obtain ⟨vs,hv,_⟩:RepV w W μ (a.eval x) (.clo f cs):=hx'
  refine hs.still (v:=a.eval x) ?_ hx
  simp [execOp,ho,hv]
theorem zdv6 (hs:SatW E s a w W μ) {x y:Operand} {T T2:TypeId} {neg p q:Bool} (ho:o.op=.binOp (if neg then .neq else .eql) T x y T2) (hT:P.underlying T=some .bool) (hx:Rep w W μ (a.eval x) (.bool p)) (hy:Rep w W μ (a.eval y) (.bool q)) :
  zq9 P o a w W μ s.mem (.bool (if neg then !decide (p=q) else decide (p=q))) s.mem:=by
 refine hs.still (v:=.bool (if neg then !decide (p=q) else decide (p=q))) ?_ (zL9 (.bool _))
 have h:=run_equalIn_bool' (P:=P) w 9999 T p q hT
 cases neg
 ·have ho':o.op=.binOp .eql T x y T2:=ho
  simp [execOp,ho',hx.bool,hy.bool,eqGuard,binOp,Op.equal,Op.maxDepth,h]
  cases p <;> cases q <;> rfl
 ·have ho':o.op=.binOp .neq T x y T2:=ho
  simp [execOp,ho',hx.bool,hy.bool,eqGuard,binOp,Op.equal,Op.maxDepth,h]
  cases p <;> cases q <;> rfl
end
section
variable {P:Program} {o:Oper} {a:Act} {E:Env} {s:S} {w:World} {W:Nat→Prop} {μ:Nat→Loc}
theorem zR3 (isS:Bool) (len cap l h m:Nat) (lo hi mx:Option Value) (hm:mx=none∧m=cap∨∃ k,mx=some (.int k m)∧hi≠none∧m≤cap) (hh:hi=none∧h=len∨∃ k,hi=some (.int k h)∧h≤m)
  (hl:lo=none∧l=0∨∃ k,lo=some (.int k l)∧l≤h):(Instr.sliceBounds isS len cap lo hi mx).run P w=.ok (l,h,m) w:=by
 rcases hm with ⟨rfl,rfl⟩|⟨km,rfl,hhi,hmc⟩
 ·rcases hh with ⟨rfl,rfl⟩|⟨kh,rfl,hle⟩ <;> rcases hl with ⟨rfl,rfl⟩|⟨kl,rfl,hll⟩ <;> simp [Instr.sliceBounds,Instr.sliceBound,asIntOf, *]
 ·rcases hh with ⟨rfl,rfl⟩|⟨kh,rfl,hle⟩
  ·exact absurd rfl hhi
  ·rcases hl with ⟨rfl,rfl⟩|⟨kl,rfl,hll⟩ <;> simp [Instr.sliceBounds,Instr.sliceBound,asIntOf, *]
structure Bds (lo hi mx:Option Value) (l h m:Option Int):Prop where
 l:lo=none∧l=none∨∃ k n,lo=some (.int k n)∧l=some n
 h:hi=none∧h=none∨∃ k n,hi=some (.int k n)∧h=some n
 m:mx=none∧m=none∨∃ k n,mx=some (.int k n)∧m=some n
def zbI4 (P:Program) (T:TypeId) (sz:Nat):Bool:=match P.underlying T with|some (.slice e)=>szIs P e sz|some .string=>true|_=>false
theorem zQ5 {T e:TypeId} {sz:Nat} (hu:P.underlying T=some (.slice e)) (hz:szIs P e sz=true) (ad:Option Addr) (n c l h m:Nat) (lo hi mx:Option Value)
  (hb:(Instr.sliceBounds true n c lo hi mx).run P w=.ok (l,h,m) w) :
  (Instr.sliceAt T (.slice ad n c) lo hi mx).run P w=.ok (.slice (if m=l then ad else ad.map (·.add (l * sz))) (h - l) (m - l)) w:=by
 simp [Instr.sliceAt,Instr.slice,run_underlying hu,hb,zau2 hz]
theorem zbm1 {T:TypeId} (hu:P.underlying T=some .string) (b:ByteArray) (l h m:Nat) (lo hi:Option Value)
  (hb:(Instr.sliceBounds false b.size b.size lo hi none).run P w=.ok (l,h,m) w) :
  (Instr.sliceAt T (.string b) lo hi none).run P w=.ok (.string (b.extract l h)) w:=by
 simp [Instr.sliceAt,Instr.slice,run_underlying hu,hb]
theorem zdi3 {b off cap sz l h:Nat} {es:List (List A)} {us:List Value} {c:Nat} (hb:¬ W b) (hlt:b < w.heap.size) (hle:l≤h) (hh:h≤es.length) (hc1:h≤c) (hf:Flat (RepC w W) sz us es)
  (hc:∀ (q:Nat) (u:Value),us[q]? = some u→w.cell? ⟨b,off+q,none⟩=some u) (_hcap:es.length≤cap) :
  RepC w W (.slice (if c=l then some ⟨b,off,none⟩ else (some (⟨b,off,none⟩:Addr)).map (·.add (l * sz))) (h - l) (c - l)) (.sl ((es.take h).drop l)):=by
 have hlen:((es.take h).drop l).length=h - l:=by simp; omega
 by_cases he:c=l
 ·have:h - l=0:=by omega
  rw [if_pos he,this]
  have:(es.take h).drop l=[]:=List.eq_nil_of_length_eq_zero (by omega)
  rw [this]; exact .sl0 _ _
 ·rw [if_neg he]
  simp only [Option.map_some,Addr.add_lit]
  rw [← hlen]
  refine RepC.mk_sl hb hlt (by omega) ((hf.take h).drop l) fun q u hq=>?_
  rw [List.getElem?_drop,List.getElem?_take] at hq
  split at hq
  ·rw [Nat.add_assoc]; exact hc _ _ hq
  ·cases hq
theorem zdn8 (hs:SatW E s a w W μ) {x:Operand} {lo hi mx:Option Operand} {T:TypeId} {sz:Nat} {ax av:A} {l h m:Option Int} {obl:Prop} (ho:o.op=.slice T x lo hi mx) (hT:zbI4 P T sz=true) (hx:Rep w W μ (a.eval x) ax)
  (hstr:(∃ b,ax=.str b) ↔ P.underlying T=some .string)
  (hb:Bds (lo.map a.eval) (hi.map a.eval) (mx.map a.eval) l h m) (he:zax8 s.mem sz ax l h m=some (obl,av)) (hobl:obl):zq9 P o a w W μ s.mem av s.mem:=by
 have fin:∀ v,(Instr.sliceAt T (a.eval x) (lo.map a.eval) (hi.map a.eval) (mx.map a.eval)).run P w=.ok v w→Rep w W μ v av→zq9 P o a w W μ s.mem av s.mem:=fun v h1 h2 =>
  hs.still (v:=v) (by simp only [execOp,ho,Sem.run_bind,h1,Result.andThen_ok,Sem.run_pure]) h2
 generalize lo.map a.eval=lo' at hb fin
 generalize hi.map a.eval=hi' at hb fin
 generalize mx.map a.eval=mx' at hb fin
 obtain ⟨hl,hh,hm⟩:=hb
 have plain:∀ (es:List (List A)) (full:Bool),RepC w W (a.eval x) (.sl es)→(∀ b,ax≠.str b)→0≤l.getD 0→l.getD 0≤h.getD es.length→h.getD es.length≤es.length→zP2 sz es →
   (full=false→m=none)→(full=true→m=some (h.getD es.length)∧h≠none)→av=(if full then .full ((es.take (h.getD es.length).toNat).drop (l.getD 0).toNat) else .sl ((es.take (h.getD es.length).toNat).drop (l.getD 0).toNat))→zq9 P o a w W μ s.mem av s.mem:=by
  intro es full hes hns h1 h2 h3 hall hf0 hf1 hav
  have hsl:∃ e,P.underlying T=some (.slice e)∧szIs P e sz=true:=by
   unfold zbI4 at hT
   split at hT
   ·rename_i e hu; exact ⟨e,hu,hT⟩
   ·rename_i hu; obtain ⟨b,hb⟩:=hstr.2 hu; exact absurd hb (hns b)
   ·cases hT
  obtain ⟨e,hu,hz⟩:=hsl
  obtain ⟨ad,cap,hv,hcap,hrep⟩:∃ ad cap,a.eval x=.slice ad es.length cap∧es.length≤cap∧∀ l h c:Nat,l≤h→h≤es.length→h≤c→RepC w W (.slice (if c=l then ad else ad.map (·.add (l * sz))) (h - l) (c - l)) (.sl ((es.take h).drop l)):=by
   rcases hes.open_sl with ⟨rfl,ad,cap,hv⟩|⟨b,off,cap,sz',us,hv,hb,hlt,hn,hcap,hf,hc⟩
   ·refine ⟨ad,cap,hv,Nat.zero_le _,fun l h c h1 h2 h3=>?_⟩
    have:h=0:=by simpa using h2
    subst this
    have:l=0:=by omega
    subst this
    simp only [Nat.sub_self,List.take_nil,List.drop_nil]
    exact .sl0 _ _
   ·have hsz:sz'=sz:=by
     have h0:es[0]? = some es[0]:=by simp
     rw [← hf.hs _ _ h0]; exact hall _ (List.mem_of_getElem? h0)
    subst hsz
    exact ⟨_,cap,hv,hcap,fun l h c h1 h2 h3=>zdi3 hb hlt h1 h2 h3 hf hc hcap⟩
  have hl':lo'=none∧(l.getD 0).toNat=0∨∃ k,lo'=some (.int k ((l.getD 0).toNat:Int))∧(l.getD 0).toNat≤(h.getD es.length).toNat:=by
   rcases hl with ⟨h4,rfl⟩|⟨k,n,h4,rfl⟩
   ·exact .inl ⟨h4,rfl⟩
   ·refine .inr ⟨k,?_,by simp at *; omega⟩
    simp at h1
    simp [h4]; omega
  cases full with
  | false =>
   have hm0:=hf0 rfl
   have hmx:mx'=none:=by
    rcases hm with ⟨h4,_⟩|⟨k,n,_,h5⟩
    ·exact h4
    ·rw [hm0] at h5; cases h5
   have hh':hi'=none∧(h.getD es.length).toNat=es.length∨∃ k,hi'=some (.int k ((h.getD es.length).toNat:Int))∧(h.getD es.length).toNat≤cap:=by
    rcases hh with ⟨h4,rfl⟩|⟨k,n,h4,rfl⟩
    ·exact .inl ⟨h4,by simp⟩
    ·refine .inr ⟨k,?_,by simp at *; omega⟩
     simp at h2 h1
     have:0≤n:=by omega
     simp [h4]; omega
   have hbds:=zR3 (P:=P) (w:=w) true es.length cap (l.getD 0).toNat (h.getD es.length).toNat cap lo' hi' mx' (.inl ⟨hmx,rfl⟩) hh' hl'
   refine fin _ (by rw [hv]; exact zQ5 hu hz ad _ _ _ _ _ _ _ _ hbds) ?_
   rw [hav]
   exact zL9 (hrep _ _ _ (by omega) (by omega) (by omega))
  | true =>
   obtain ⟨hm0,hhn⟩:=hf1 rfl
   obtain ⟨kh,nh,hhi,hhe⟩:∃ k n,hi'=some (.int k n)∧h=some n:=by
    rcases hh with ⟨_,h5⟩|h4
    ·exact absurd h5 hhn
    ·exact h4
   subst hhe
   simp only [Option.getD_some] at *
   have hn0:0≤nh:=by omega
   have hmx:∃ k,mx'=some (.int k (nh.toNat:Int)):=by
    rcases hm with ⟨_,h5⟩|⟨k,n,h4,h5⟩
    ·rw [hm0] at h5; cases h5
    ·rw [hm0] at h5; cases h5; exact ⟨k,by simp [h4]; omega⟩
   obtain ⟨km,hmx⟩:=hmx
   have hbds:=zR3 (P:=P) (w:=w) true es.length cap (l.getD 0).toNat nh.toNat nh.toNat lo' hi' mx' (.inr ⟨km,hmx,by simp [hhi],by omega⟩) (.inr ⟨kh,by simp [hhi]; omega,Nat.le_refl _⟩) hl'
   refine fin _ (by rw [hv]; exact zQ5 hu hz ad _ _ _ _ _ _ _ _ hbds) ?_
   rw [hav]
   exact zL9 (.full _ _ _ (hrep _ _ _ (by omega) (by omega) (Nat.le_refl _)))
 unfold zax8 at he
 split at he
 ·cases he
  obtain ⟨h1,h2,h3,h4⟩:=hobl
  exact plain _ false hx (by simp) h1 h2 h3 h4 (fun _=>rfl) (by simp) rfl
 ·cases he
  obtain ⟨h1,h2,h3,h4⟩:=hobl
  exact plain _ false (RepC.of_full hx).1 (by simp) h1 h2 h3 h4 (fun _=>rfl) (by simp) rfl
 ·rename_i y lo0 n
  split at he
  ·rename_i r hr
   cases he
   obtain ⟨h1,h2,h3,h4⟩:=hobl
   have hmx:mx'=none:=by
    rcases hm with ⟨h5,_⟩|⟨k,q,_,h6⟩
    ·exact h5
    ·cases h6
   obtain ⟨e,hu,hz⟩:∃ e,P.underlying T=some (.slice e)∧szIs P e sz=true:=by
    unfold zbI4 at hT
    split at hT
    ·rename_i e hu; exact ⟨e,hu,hT⟩
    ·rename_i hu; obtain ⟨b,hb⟩:=hstr.2 hu; cases hb
    ·cases hT
   have hl':∀ hh:Nat,(l.getD 0).toNat≤hh→(lo'=none∧(l.getD 0).toNat=0∨∃ k,lo'=some (.int k ((l.getD 0).toNat:Int))∧(l.getD 0).toNat≤hh):=by
    intro hh' hle
    rcases hl with ⟨h4,rfl⟩|⟨k,n,h4,rfl⟩
    ·exact .inl ⟨h4,rfl⟩
    ·refine .inr ⟨k,?_,hle⟩
     simp at h1
     simp [h4]; omega
   have hh':∀ cap,n≤cap→(hi'=none∧(h.getD n).toNat=n∨∃ k,hi'=some (.int k ((h.getD n).toNat:Int))∧(h.getD n).toNat≤cap):=by
    intro cap hcap
    rcases hh with ⟨h4,rfl⟩|⟨k,q,h4,rfl⟩
    ·exact .inl ⟨h4,by simp⟩
    ·refine .inr ⟨k,?_,by simp at *; omega⟩
     simp at h2 h1
     have:0≤q:=by omega
     simp [h4]; omega
   have hm':=hs.mem y
   rw [hr] at hm'
   rcases hs.own hx hr with ⟨rfl,ad,hv⟩|⟨k,cap,h5,h6,h7,h8,h9,hrow⟩
   ·have hbds:=zR3 (P:=P) (w:=w) true 0 0 (l.getD 0).toNat (h.getD (0:Nat)).toNat 0 lo' hi' mx' (.inl ⟨hmx,rfl⟩) (by simpa using hh' 0 (Nat.le_refl _)) (hl' _ (by simp at *; omega))
    refine fin _ (by rw [hv]; exact zQ5 hu hz ad _ _ _ _ _ _ _ _ hbds) ?_
    have e1:(h.getD (0:Nat)).toNat - (l.getD 0).toNat=0:=by simp at *; omega
    have e2:0 - (l.getD 0).toNat=0:=by omega
    rw [e1,e2]
    refine (show RepK w W μ _ (.own y _ 0) from ⟨rfl,?_⟩)
    rcases hm' with ⟨hmy,_⟩|⟨k,hmy,_⟩
    ·rw [hmy]; exact ⟨rfl,_,rfl⟩
    ·rw [hmy]; exact .inl ⟨rfl,_,rfl⟩
   ·have hbds:=zR3 (P:=P) (w:=w) true n cap (l.getD 0).toNat (h.getD n).toNat cap lo' hi' mx' (.inl ⟨hmx,rfl⟩) (hh' cap h8) (hl' _ (by omega))
    refine fin _ (by rw [h6]; exact zQ5 hu hz _ _ _ _ _ _ _ _ _ hbds) ?_
    refine (show RepK w W μ _ (.own y _ _) from ⟨rfl,?_⟩)
    rw [h5]
    have hksz:k.sz=sz:=hrow.2.1.trans h4
    by_cases hcl:cap=(l.getD 0).toNat
    ·left
     rw [if_pos hcl]
     have e1:(h.getD n).toNat - (l.getD 0).toNat=0:=by omega
     have e2:cap - (l.getD 0).toNat=0:=by omega
     rw [e1,e2]
     exact ⟨rfl,_,rfl⟩
    ·right
     refine ⟨cap - (l.getD 0).toNat,?_,?_,by omega,by omega⟩
     ·rw [if_neg hcl]
      simp only [Option.map_some,Addr.add_lit,hksz,Nat.add_mul]
     ·refine Nat.le_trans (Nat.mul_le_mul_right _ ?_) h7; omega
  ·cases he
 ·rename_i b
  cases he
  obtain ⟨h1,h2,h3⟩:=hobl
  have hu:P.underlying T=some .string:=hstr.1 ⟨b,rfl⟩
  have hmx:mx'=none:=by
   rcases hm with ⟨h5,_⟩|⟨k,q,_,h6⟩
   ·exact h5
   ·cases h6
  have hl':lo'=none∧(l.getD 0).toNat=0∨∃ k,lo'=some (.int k ((l.getD 0).toNat:Int))∧(l.getD 0).toNat≤(h.getD b.size).toNat:=by
   rcases hl with ⟨h4,rfl⟩|⟨k,n,h4,rfl⟩
   ·exact .inl ⟨h4,rfl⟩
   ·refine .inr ⟨k,?_,by simp at *; omega⟩
    simp at h1
    simp [h4]; omega
  have hh':hi'=none∧(h.getD b.size).toNat=b.size∨∃ k,hi'=some (.int k ((h.getD b.size).toNat:Int))∧(h.getD b.size).toNat≤b.size:=by
   rcases hh with ⟨h4,rfl⟩|⟨k,q,h4,rfl⟩
   ·exact .inl ⟨h4,by simp⟩
   ·refine .inr ⟨k,?_,by simp at *; omega⟩
    simp at h2 h1
    have:0≤q:=by omega
    simp [h4]; omega
  have hbds:=zR3 (P:=P) (w:=w) false b.size b.size (l.getD 0).toNat (h.getD b.size).toNat b.size lo' hi' none (.inl ⟨rfl,rfl⟩) hh' hl'
  rw [hmx] at fin
  rw [hx.str] at fin
  exact fin _ (zbm1 hu b _ _ _ _ _ hbds) (zL9 (.str _))
 ·rename_i es mm
  split at he
  ·rename_i hq
   cases he
   obtain ⟨h1,h2,h3,h4,h5⟩:=hobl
   exact plain _ true hx (by simp) h1 h2 h3 h5 (by simp) (fun _=>⟨by rw [← h4]; rfl,by simp⟩) rfl
  ·cases he
 ·rename_i es mm
  split at he
  ·rename_i hq
   cases he
   obtain ⟨h1,h2,h3,h4,h5⟩:=hobl
   exact plain _ true (RepC.of_full hx).1 (by simp) h1 h2 h3 h5 (by simp) (fun _=>⟨by rw [← h4]; rfl,by simp⟩) rfl
  ·cases he
 ·rename_i y lo0 n mm
  split at he
  ·rename_i hq r hr
   cases he
   obtain ⟨h1,h2,h3,h4,h5⟩:=hobl
   obtain ⟨e,hu,hz⟩:∃ e,P.underlying T=some (.slice e)∧szIs P e sz=true:=by
    unfold zbI4 at hT
    split at hT
    ·rename_i e hu; exact ⟨e,hu,hT⟩
    ·rename_i hu; obtain ⟨b,hb⟩:=hstr.2 hu; cases hb
    ·cases hT
   have hn0:0≤hq:=by omega
   obtain ⟨kh,hhi⟩:∃ k,hi'=some (.int k (hq.toNat:Int)):=by
    rcases hh with ⟨_,h6⟩|⟨k,n',h6,h7⟩
    ·cases h6
    ·cases h7; exact ⟨k,by rw [h6,Int.toNat_of_nonneg hn0]⟩
   obtain ⟨km,hmx⟩:∃ k,mx'=some (.int k (hq.toNat:Int)):=by
    rcases hm with ⟨_,h6⟩|⟨k,n',h6,h7⟩
    ·cases h6
    ·cases h7; exact ⟨k,by rw [h6,← h4,Int.toNat_of_nonneg hn0]⟩
   have hl':lo'=none∧(l.getD 0).toNat=0∨∃ k,lo'=some (.int k ((l.getD 0).toNat:Int))∧(l.getD 0).toNat≤hq.toNat:=by
    rcases hl with ⟨h6,rfl⟩|⟨k,n',h6,rfl⟩
    ·exact .inl ⟨h6,by simp⟩
    ·refine .inr ⟨k,?_,by simp at *; omega⟩
     simp at h1
     simp [h6]; omega
   have hm':=hs.mem y
   rw [hr] at hm'
   rcases hs.own hx hr with ⟨rfl,ad,hv⟩|⟨k,cap,h6,h7,h8,h9,h10,hrow⟩
   ·have hbds:=zR3 (P:=P) (w:=w) true 0 0 (l.getD 0).toNat hq.toNat hq.toNat lo' hi' mx' (.inr ⟨km,hmx,by simp [hhi],by omega⟩) (.inr ⟨kh,hhi,Nat.le_refl _⟩) hl'
    refine fin _ (by rw [hv]; exact zQ5 hu hz ad _ _ _ _ _ _ _ _ hbds) ?_
    have e2:hq.toNat - (l.getD 0).toNat=0:=by omega
    rw [e2]
    have e3:(l.getD 0).toNat=0:=by omega
    have e4:hq.toNat=0:=by omega
    rw [e3,e4]
    refine (show RepK w W μ _ (.own y _ 0) from ⟨rfl,?_⟩)
    rcases hm' with ⟨hmy,_⟩|⟨k,hmy,_⟩
    ·rw [hmy]; exact ⟨rfl,_,rfl⟩
    ·rw [hmy]; exact .inl ⟨rfl,_,rfl⟩
   ·have hbds:=zR3 (P:=P) (w:=w) true n cap (l.getD 0).toNat hq.toNat hq.toNat lo' hi' mx' (.inr ⟨km,hmx,by simp [hhi],by omega⟩) (.inr ⟨kh,hhi,Nat.le_refl _⟩) hl'
    refine fin _ (by rw [h7]; exact zQ5 hu hz _ _ _ _ _ _ _ _ _ hbds) ?_
    refine (show RepK w W μ _ (.own y _ _) from ⟨rfl,?_⟩)
    rw [h6]
    have hksz:k.sz=sz:=hrow.2.1.trans h5
    by_cases hcl:hq.toNat=(l.getD 0).toNat
    ·left
     have e1:hq.toNat - (l.getD 0).toNat=0:=by omega
     rw [if_pos hcl,e1]
     exact ⟨rfl,_,rfl⟩
    ·right
     refine ⟨hq.toNat - (l.getD 0).toNat,?_,?_,Nat.le_refl _,by omega⟩
     ·rw [if_neg hcl]
      simp only [Option.map_some,Addr.add_lit,hksz,Nat.add_mul]
     ·refine Nat.le_trans (Nat.mul_le_mul_right _ ?_) h8; omega
  ·cases he
 ·cases he
end
section
variable {P:Program} {o:Oper} {a:Act} {E:Env} {s:S} {w:World} {W:Nat→Prop} {μ:Nat→Loc}
theorem zaB9 (w:World) (ob:Obj):Keeps (fun _=>False) w (w.alloc ob) :=
 ⟨rfl,rfl,rfl,Nat.le_refl _,by simp,fun b hb _=>heap_alloc_old w ob hb⟩
theorem zab8 (w:World) (ob:Obj):Keeps (fun _=>False) w (w.drew.alloc ob) :=
 ⟨rfl,rfl,rfl,Nat.le_succ _,by simp,fun b hb _=>heap_alloc_old w.drew ob hb⟩
theorem zcc9 {v:Value} {x lo n:Nat} (h:RepK w W μ v (.own x lo n)):Rep w W μ v (.own x lo n):=h
theorem zcS5 (hs:SatW E s a w W μ) {x:Operand} {sz:Nat} {z:List A} {id:Nat} (ho:o.op=.move x∨o.op=.assign x) (hx:x=.const (.slice none 0 0)) (hid:s.mem id=.fresh) (hsz:0 < sz) :
  zq9 P o a w W μ s.mem (.own id 0 0) (setM s.mem [(id,.row ⟨false,sz,z,[]⟩)]):=by
 refine ⟨_,.slice none 0 0,w,W,_,?_,.inl rfl,?_,Step.newEmpty hs.mem hs.inj hs.wlt hid hsz rfl (Keeps.refl _ w)⟩
 ·rcases ho with ho|ho <;> simp [execOp,ho,hx,Act.eval]
 ·refine zcc9 ⟨rfl,?_⟩
  simp
theorem zdv7 (hs:SatW E s a w W μ) {x:Operand} {T:TypeId} {n:Nat} {ax:A} {id:Nat} (ho:o.op=.box T x) (hx:Rep w W μ (a.eval x) ax) (hid:s.mem id=.fresh) (hv:ax.isV=true) (hn:0 < n) (hl:ax.cells.length=n) :
  zq9 P o a w W μ s.mem (.ptr id 0 0) (setM s.mem [(id,.row ⟨false,n,ax.cells,[ax.cells]⟩)]):=by
 obtain ⟨us,hu,hlen,hr⟩:=hx.toCells hv
 subst hl
 have hst:=Step.new (w':=w.alloc (.cells us.toArray T)) hs.mem hs.inj hs.wlt hid (r:=⟨false,ax.cells.length,ax.cells,[ax.cells]⟩) (us:=us) (rest:=[]) (e:=T) hn (zaB9 _ _) (Flat.one hlen hr) (by simpa using heap_alloc_new w _)
 refine ⟨_,.pointer (some ⟨w.heap.size,0,none⟩),_,_,_,?_,.inl rfl,?_,hst⟩
 ·simp [execOp,ho,Instr.box,newVar,newRow,newObj,Sem.run,hu]
 ·have:=zbq1 (w:=w.alloc (.cells us.toArray T)) (W:=fun b=>W b∨b=w.heap.size) (μ:=fun x=>if x=id then Loc.at_ ⟨w.heap.size,ax.cells.length,us.length+([]:List Value).length⟩ else μ x) (y:=id) (k:=⟨w.heap.size,ax.cells.length,us.length+([]:List Value).length⟩) (by simp) 0 0
  simpa using this
def zbb8 (P:Program) (T:TypeId) (z:List A):Bool:=match P.info? T with|some i=>(match i.zero with|some v=>zaq7 v.cells.toList z|none=>false)|none=>false
theorem zaM4 {T:TypeId} {z:List A} (h:zbb8 P T z=true):∃ v,(∀ w,(zeroValue T).run P w=.ok v w)∧(∃ i,P.info? T=some i∧i.zero=some v)∧v.cells.toList.length=z.length∧∀ (w:World) (W:Nat→Prop) (i:Nat) (u:Value) (b:A),v.cells.toList[i]? = some u→z[i]? = some b→RepC w W u b:=by
 unfold zbb8 at h
 split at h
 ·rename_i i hi
  split at h
  ·rename_i v hv
   refine ⟨v,fun w=>by simp [zeroValue,typeInfo,hi,hv],⟨i,hi,hv⟩,(zaA7 (w:=default) (W:=fun _=>False) h).1,fun w W i u b h1 h2=>(zaA7 h).2 i u b h1 h2⟩
  ·cases h
 ·cases h
theorem zdi4 (hs:SatW E s a w W μ) {T:TypeId} {z:List A} {id:Nat} (ho:o.op=.alloc T) (hz:zbb8 P T z=true) (hid:s.mem id=.fresh) (hn:0 < z.length) :
  zq9 P o a w W μ s.mem (.ptr id 0 0) (setM s.mem [(id,.row ⟨false,z.length,z,[z]⟩)]):=by
 obtain ⟨v,hv,_,hl,hr⟩:=zaM4 hz
 have hst:=Step.new (w':=w.alloc (.cells v.cells T)) hs.mem hs.inj hs.wlt hid (r:=⟨false,z.length,z,[z]⟩) (us:=v.cells.toList) (rest:=[]) (e:=T) hn (zaB9 _ _)
  (Flat.one hl fun i u b h1 h2=>zs2 (hr w W i u b h1 h2)) (by simpa using heap_alloc_new w _)
 refine ⟨_,.pointer (some ⟨w.heap.size,0,none⟩),_,_,_,?_,.inl rfl,?_,hst⟩
 ·simp [execOp,ho,Instr.alloc,hv,newVar,newRow,newObj,Sem.run]
 ·have:=zbq1 (w:=w.alloc (.cells v.cells T)) (W:=fun b=>W b∨b=w.heap.size) (μ:=fun x=>if x=id then Loc.at_ ⟨w.heap.size,z.length,v.cells.toList.length+([]:List Value).length⟩ else μ x) (y:=id) (k:=⟨w.heap.size,z.length,v.cells.toList.length+([]:List Value).length⟩) (by simp) 0 0
  simpa using this
theorem zcd0 {T:TypeId} {n:Nat} (hT:szIs P T n=true) {g off:Nat} {us rest vs:List Value} {e:TypeId} {v:Value} (hv:v.cells=vs.toArray) (hn:vs.length=n) (hg:w.heap[g]? = some (.cells (us++rest).toArray e (0,0)))
  (hfit:off+vs.length≤us.length) (h1:∀ u ∈ vs,u.oneCell'=true) :
  (Instr.storeAt T (.pointer (some ⟨g,off,none⟩)) v).run P w=.ok () (w.setRow g ((us.take off++vs++us.drop (off+vs.length))++rest).toArray):=by
 have hst:=run_storeCells_at P g off e vs 0 (us++rest).toArray w hg (by simp; omega) h1
 simp only [Nat.add_zero] at hst
 have hsz2:¬ vs.toArray.size≠n:=by simpa using hn
 simp only [Instr.storeAt,Instr.sureAddr,storeVar,Sem.run_bind,Sem.run_pure,Result.andThen_ok,zau2 hT,hv,hsz2,if_false,hst]
 congr 2
 have e1:(us++rest).take off=us.take off:=List.take_append_of_le_length (by omega)
 have e2:(us++rest).drop (off+vs.length)=us.drop (off+vs.length)++rest:=List.drop_append_of_le_length (by omega)
 simp [e1,e2]
theorem zaG7 (w:World) (g:Nat) (c:Array Value):Keeps (fun b=>b=g) w (w.setRow g c) :=
 ⟨rfl,rfl,rfl,Nat.le_refl _,by simp [World.setRow],fun b _ hb=>setRow_other w g b c hb⟩
theorem zcI4 (us vs:List Value) (i j sz n:Nat) (hi:(i+1) * sz≤us.length) (hj:j+n≤sz) (hn:vs.length=n) :
  us.take (i * sz)++(((us.drop (i * sz)).take sz).take j++vs++((us.drop (i * sz)).take sz).drop (j+vs.length))++us.drop ((i+1) * sz)=us.take (i * sz+j)++vs++us.drop (i * sz+j+vs.length):=by
 subst hn
 rw [Nat.add_mul,Nat.one_mul] at hi ⊢
 generalize i * sz=p at *
 have e1:us.take (p+j)=us.take p++((us.drop p).take sz).take j:=by
  rw [List.take_add,List.take_take,Nat.min_eq_left (by omega)]
 have e2:us.drop (p+j+vs.length)=((us.drop p).take sz).drop (j+vs.length)++us.drop (p+sz):=by
  have h1:us.drop p=(us.drop p).take sz++us.drop (p+sz):=by
   rw [← List.drop_drop,List.take_append_drop]
  have h2:us.drop (p+j+vs.length)=(us.drop p).drop (j+vs.length):=by rw [List.drop_drop,Nat.add_assoc]
  rw [h2]
  conv=>lhs; rw [h1]
  rw [List.drop_append_of_le_length]
  simp only [List.length_take,List.length_drop]; omega
 rw [e1,e2]
 simp only [List.append_assoc]
theorem zdi5 {id:Nat} (hs:SatW E s a w W μ) {x y:Operand} {T:TypeId} {n:Nat} {ax ay:A} {ef:Ef} (ho:o.op=.store T x y) (hT:szIs P T n=true) (hx:Rep w W μ (a.eval x) ax) (hy:Rep w W μ (a.eval y) ay)
  (he:ev id s.mem (.store n) [ax,ay]=some ef) (hobl:ef.obl):zq9 P o a w W μ s.mem ef.v (setM s.mem ef.mw):=by
 cases ax <;> simp only [ev] at he <;> try (cases he; done)
 rename_i p i j
 split at he
 ·rename_i r hr
  cases he
  obtain ⟨hro,hv,hi,hj,hn⟩:=hobl
  obtain ⟨k,hk,hp,hrow⟩:=hs.ptr hx hr
  obtain ⟨us,hcu,hlen,hrep⟩:=hy.toCells hv
  obtain ⟨_,hksz,hpos,us0,rest,e,hheap,htot,hf⟩:=hrow
  have hc:r.es[i]? = some (r.es.getD i r.z):=by simp [hi]
  have hcl:=hf.hs i _ hc
  have hsp:=hf.split hc
  have hfit:(i+1) * r.sz≤us0.length:=by rw [hf.hl]; exact Nat.mul_le_mul_right _ hi
  have hone:∀ u ∈ us,u.oneCell'=true:=fun u hu=>by
   obtain ⟨q,hq⟩:=List.getElem?_of_mem hu
   have hq2:q < ay.cells.length:=by rw [← hlen]; exact (List.getElem?_eq_some_iff.1 hq).1
   exact (hrep q u _ hq (List.getElem?_eq_getElem hq2)).oneCell
  have hupd:=Flat.upd (R:=RepK w W μ) (c:=r.es.getD i r.z) (hcl ▸ hsp) hlen hrep j (by omega)
  rw [hcl] at hupd
  have hset:=hf.set i hi hupd
  have hfit2:i * r.sz+j+us.length≤us0.length:=by rw [Nat.add_mul] at hfit; omega
  have hrun:=zcd0 (w:=w) hT (g:=k.b) (off:=i * r.sz+j) hcu (by omega) hheap hfit2 hone
  rw [zcI4 us0 us i j r.sz us.length hfit (by omega) rfl] at hset
  refine ⟨.skip,undef,w.setRow k.b ((us0.take (i * r.sz+j)++us++us0.drop (i * r.sz+j+us.length))++rest).toArray,W,μ,?_,.inr ⟨rfl,rfl⟩,trivial,Step.write (rest:=rest) hs.mem hs.inj hs.wlt hk hr hro (r':=⟨r.ro,r.sz,r.z,r.es.set i (upd (r.es.getD i r.z) j ay.cells)⟩) rfl (zaG7 _ _ _) hset (setRow_heap w k.b _ _ e _ hheap) ?_⟩
  ·simp only [execOp,ho,hp,hksz,Sem.run_bind,hrun,Result.andThen_ok,Sem.run_pure]
  ·simp only [List.length_append,List.length_take,List.length_drop]
   omega
 ·cases he
end
end Ab
end Go.Proofs.YtcggeefhhegeoaaGreatDoor
