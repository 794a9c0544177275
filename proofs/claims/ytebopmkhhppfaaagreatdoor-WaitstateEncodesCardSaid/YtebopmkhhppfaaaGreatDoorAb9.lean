import Derived.Test.YtebopmkhhppfaaaGreatDoorAb8
namespace Go.Proofs.YtebopmkhhppfaaaGreatDoor
namespace Ab
set_option linter.unusedSimpArgs false
set_option linter.unusedVariables false
section
variable {P:Program} {o:Oper} {a:Act} {E:Env} {s:S} {w:World} {W:Nat→Prop} {μ:Nat→Loc}
def zaP2 (P:Program) (w:World) (sz m:Nat) (x:Value) (news:List Value):Prop :=
 ∀ w1:World,w1.heap=w.heap→(Builtin.lenOf x).run P w1=.ok m w1∧(∀ n,n≤m→(Builtin.firstCells sz n x).run P w1=.ok (news.take (n * sz)).toArray w1)
theorem zai3 {ad:Option Addr} {m c sz:Nat} {news:List Value} (hl:news.length=m * sz) (hc:∀ b,ad=some b→∀ (j:Nat) (u:Value),news[j]? = some u→w.cell? (b.add j)=some u) (hn:ad=none→news=[]) :
  zaP2 P w sz m (.slice ad m c) news:=by
 intro w1 hw
 refine ⟨rfl,fun n hnm=>?_⟩
 cases ad with
 | none=>simp [Builtin.firstCells,hn rfl]
 | some b =>
  refine run_firstCells_some w1 sz n b m c (news.take (n * sz)) ?_ fun j v hj=>?_
  ·rw [List.length_take,hl,Nat.min_eq_left (Nat.mul_le_mul_right _ hnm)]
  ·rw [List.getElem?_take] at hj
   split at hj
   ·have:=hc b rfl j v hj
    rw [← this]; simp [World.cell?,hw]
   ·cases hj
theorem zbw7 (hs:SatW E s a w W μ) {v:Value} {ax:A} {new:List (List A)} {sz:Nat} (hx:Rep w W μ v ax) (he:zas5 s.mem ax=some new) (hok:zac7 s.mem ax) (ha:zF2 sz new) :
  ∃ news,zaP2 P w sz new.length v news∧Flat (RepK w W μ) sz news new:=by
 have plain:∀ es,RepC w W v (.sl es)→zF2 sz es→∃ news,zaP2 P w sz es.length v news∧Flat (RepK w W μ) sz news es:=fun es hes hall=>by
  rcases hes.open_sl with ⟨rfl,ad,cap,hv⟩|⟨b,off,cap,sz',us,hv,hb,hlt,hn,hcap,hf,hc⟩
  ·exact ⟨[],by rw [hv]; exact zai3 (by simp) (by simp) (by simp),Flat.nil _ _⟩
  ·have hsz:sz'=sz:=by
    have h0:es[0]? = some es[0]:=by simp
    rw [← hf.hs _ _ h0]; exact hall _ (List.mem_of_getElem? h0)
   subst hsz
   refine ⟨us,?_,hf.mono fun u a hr=>zh7 hr⟩
   rw [hv]
   exact zai3 hf.hl (fun ad had j u hj=>by cases had; rw [Addr.add_lit]; exact hc j u hj) (by simp)
 unfold zas5 at he
 split at he
 ·cases he; exact plain _ hx ha
 ·cases he; exact plain _ (RepC.of_full hx).1 ha
 ·rename_i y lo n
  split at he
  ·rename_i r hr
   cases he
   rcases hs.own hx hr with ⟨rfl,ad,hv⟩|⟨k,cap,h5,h6,h7,h8,h9,hrow⟩
   ·have:(r.es.drop lo).take 0=[]:=by simp
    rw [this]
    exact ⟨[],by rw [hv]; exact zai3 (by simp) (by simp) (by simp),Flat.nil _ _⟩
   ·obtain ⟨_,hksz,hpos,us0,rest,e,hheap,htot,hf⟩:=hrow
    have hln:lo+n≤r.es.length:=by simpa only [zac7,hr] using hok
    have hlen:((r.es.drop lo).take n).length=n:=by simp; omega
    have hf2:=(hf.drop lo).take n
    have hsz:(r.es.drop lo).take n=[]∨r.sz=sz:=by
     by_cases hnil:(r.es.drop lo).take n=[]
     ·exact .inl hnil
     ·right
      have h0:((r.es.drop lo).take n)[0]? = some (((r.es.drop lo).take n)[0]'(List.length_pos_iff.2 hnil)):=List.getElem?_eq_getElem _
      rw [← hf2.hs _ _ h0]; exact ha _ (List.mem_of_getElem? h0)
    rcases hsz with hnil|hsz
    ·have hn0:n=0:=by rw [hnil] at hlen; simpa using hlen.symm
     rw [hnil,h6,hn0]
     exact ⟨[],zai3 (by simp) (by simp) (by simp),Flat.nil _ _⟩
    ·subst hsz
     refine ⟨_,?_,hf2⟩
     rw [h6,hlen]
     refine zai3 (by rw [hf2.hl,hlen]) (fun ad had j u hj=>?_) (by simp)
     cases had
     rw [Addr.add_lit]
     rw [List.getElem?_take] at hj
     split at hj
     ·rw [List.getElem?_drop] at hj
      simp only [World.cell?,hheap,hksz,Option.isSome_none,Bool.false_eq_true,if_false,List.getElem?_toArray]
      rw [List.getElem?_append_left (List.getElem?_eq_some_iff.1 hj).1,hj]
     ·cases hj
  ·cases he
 ·rename_i b
  cases he
  have hbl:b.toList=b.data.toList:=ByteArray.toList_eq b
  have hv:=hx.str
  subst hv
  refine ⟨b.toList.map fun c=>Value.int .u8 c.toNat,?_,?_⟩
  ·intro w1 hw
   refine ⟨?_,fun n hn=>?_⟩
   ·simp [Builtin.lenOf,hbl]
   ·simp only [Builtin.firstCells,Sem.run_pure,List.length_map] at hn ⊢
    congr 1
    apply Array.ext'
    by_cases hb0:b.toList=[]
    ·have:b.data=#[]:=by rw [hbl] at hb0; exact Array.toList_eq_nil_iff.1 hb0
     simp [hb0,this]
    ·have hs1:sz=1:=by
      have:[A.int .u8 (b.toList.head hb0).toNat] ∈ b.toList.map (fun c=>[A.int .u8 c.toNat]):=List.mem_map.2 ⟨_,List.head_mem hb0,rfl⟩
      exact (ha _ this).symm
     subst hs1
     simp [hbl]
  ·refine ⟨?_,fun i c hc=>ha c (List.mem_of_getElem? hc),fun i c j d hc hd=>?_⟩
   ·by_cases hb0:b.toList=[]
    ·simp [hb0]
    ·have hs1:sz=1:=by
      have:[A.int .u8 (b.toList.head hb0).toNat] ∈ b.toList.map (fun c=>[A.int .u8 c.toNat]):=List.mem_map.2 ⟨_,List.head_mem hb0,rfl⟩
      exact (ha _ this).symm
     simp [hs1]
   ·rw [List.getElem?_map] at hc
    cases hb:b.toList[i]? with
    | none=>simp [hb] at hc
    | some q =>
     simp [hb] at hc
     subst hc
     have hs1:sz=1:=(ha _ (List.mem_map.2 ⟨q,List.mem_of_getElem? hb,rfl⟩)).symm
     subst hs1
     cases j with
     | zero =>
      simp at hd
      subst hd
      exact ⟨_,by simp [hb],show RepC w W _ _ from .int _ _⟩
     | succ j=>simp at hd
 ·cases he
def zbr7 (P:Program) (T U:TypeId) (sz bytes:Nat):Bool :=
 match P.underlying T with
 | some (.slice e)=>(match P.info? e with
  | some i=>i.size == sz&&i.bytes == bytes&&(match i.zero with|some z=>z.cells.size == sz|none=>false)
  | none=>false)&&(match P.underlying U with|some (.slice _)=>true|some .string=>true|_=>false)
 | _=>false
theorem zbe6 {T U:TypeId} {sz bytes:Nat} (h:zbr7 P T U sz bytes=true):∃ e i z,P.underlying T=some (.slice e)∧P.info? e=some i∧i.size=sz∧i.bytes=bytes∧i.zero=some z∧z.cells.size=sz ∧
  ((∃ e2,P.underlying U=some (.slice e2))∨P.underlying U=some .string):=by
 unfold zbr7 at h
 split at h
 ·rename_i e hu
  simp only [Bool.and_eq_true] at h
  obtain ⟨h1,h2⟩:=h
  split at h1
  ·rename_i i hi
   simp only [Bool.and_eq_true,beq_iff_eq] at h1
   obtain ⟨⟨h3,h4⟩,h5⟩:=h1
   split at h5
   ·rename_i z hz
    simp only [beq_iff_eq] at h5
    split at h2
    ·rename_i e2 hu2; exact ⟨e,i,z,hu,hi,h3,h4,hz,h5,.inl ⟨e2,hu2⟩⟩
    ·rename_i hu2; exact ⟨e,i,z,hu,hi,h3,h4,hz,h5,.inr hu2⟩
    ·cases h2
   ·cases h5
  ·cases h1
 ·cases h
theorem zau4 {T U e:TypeId} {i:TypeInfo} (hT:P.underlying T=some (.slice e)) (hU:(∃ e2,P.underlying U=some (.slice e2))∨P.underlying U=some .string) (hi:P.info? e=some i)
  {ty:TypeId} {base:Option Addr} {sLen sCap m:Nat} {x:Value} {news:List Value} (hx:zaP2 P w i.size m x news) (hl:news.length=m * i.size) (hroom:sLen+m≤sCap)
  {w':World} (hst:∀ ad,base=some ad→(storeCells (ad.add (sLen * i.size)) news).run P w=.ok () w') (hno:base=none→w'=w) :
  (Builtin.append_ #[T,U] ty #[.slice base sLen sCap,x]).run P w=.ok (.slice base (sLen+m) sCap) w':=by
 obtain ⟨h1,h2⟩:=hx w rfl
 have h3:=h2 m (Nat.le_refl _)
 rw [← hl,List.take_length] at h3
 cases base with
 | none =>
  cases hno rfl
  rcases hU with ⟨e2,hU⟩|hU <;> simp [Builtin.append_,run_underlying hT,run_underlying hU,zH2 hi,h1,hroom,h3]
 | some ad =>
  have:=hst ad rfl
  rcases hU with ⟨e2,hU⟩|hU <;> simp [Builtin.append_,run_underlying hT,run_underlying hU,zH2 hi,h1,hroom,h3,this]
theorem zag1 {T U e:TypeId} {i:TypeInfo} {z:Value} (hT:P.underlying T=some (.slice e)) (hU:(∃ e2,P.underlying U=some (.slice e2))∨P.underlying U=some .string) (hi:P.info? e=some i) (hz:i.zero=some z)
  {ty:TypeId} {base:Option Addr} {sLen sCap m:Nat} {x:Value} {news olds:List Value} (hx:zaP2 P w i.size m x news) (hl:news.length=m * i.size) (hol:olds.length=sLen * i.size)
  (hold:∀ w1:World,w1.heap=w.heap→(Builtin.firstCells i.size sLen (.slice base sLen sCap)).run P w1=.ok olds.toArray w1)
  (hgrow:sCap < sLen+m) (h63:sLen+m≤maxLen) (hby:(sLen+m) * i.bytes≤140737488355328) :
  ∃ c,sLen+m≤c∧c≤maxLen∧(Builtin.append_ #[T,U] ty #[.slice base sLen sCap,x]).run P w=.ok (.slice (some ⟨w.heap.size,0,none⟩) (sLen+m) c)
   (w.drew.alloc (.cells ((olds++news)++(Builtin.zeroCells z.cells (c - (sLen+m))).toList).toArray e)):=by
 have hge:=grownCap_ge w (sLen+m) sCap e
 have hcm:=grownCap_le_maxLen w (sLen+m) sCap e h63
 refine ⟨grownCap w (sLen+m) sCap e,hge,hcm,?_⟩
 obtain ⟨h1,_⟩:=hx w rfl
 obtain ⟨_,h2⟩:=hx w.drew rfl
 have h3:=h2 m (Nat.le_refl _)
 rw [← hl,List.take_length] at h3
 have h4:=hold w.drew rfl
 have hn:¬ (sLen+m≤sCap):=by omega
 have h63':¬ (9223372036854775807 < ((sLen:Int)+(m:Int))):=by simp only [maxLen] at h63; omega
 have hfit:=growslice_fits hgrow hby
 have h48':¬ (281474976710656 < Builtin.nextslicecap (sLen+m) sCap * i.bytes):=by omega
 rcases hU with ⟨e2,hU⟩|hU <;> simp [Builtin.append_,run_underlying hT,run_underlying hU,sizeOf,typeInfo,zeroValue,hi,hz,h1,hn,h63',h48',Question.forced,h3,h4,newRow,grownCap]
 all_goals (congr 2; apply Array.ext'; simp)
theorem zad5 {x lo n:Nat} {k:Blk} {cap:Nat} (hx:μ x=.at_ k) (ht:k.tot=(lo+cap) * k.sz) (hn:n≤cap) (hc:lo+cap≤maxLen):Rep w W μ (.slice (some ⟨k.b,lo * k.sz,none⟩) n cap) (.own x lo n):=by
 refine zbw5 ⟨rfl,?_⟩
 rw [hx]
 exact .inr ⟨cap,rfl,ht,hn,hc⟩
theorem zau5 {x:Nat} {ad:Option Addr} (hx:μ x=.empty) (lo:Nat):Rep w W μ (.slice ad 0 0) (.own x lo 0):=by
 refine zbw5 ⟨rfl,?_⟩
 rw [hx]
 exact ⟨rfl,_,rfl⟩
theorem zbB4 (hm:zap1 w W μ s.mem) (hi:∀ x y k k',μ x=.at_ k→μ y=.at_ k'→k.b=k'.b→x=y) (hlt:∀ b,W b→b < w.heap.size)
  {T U e:TypeId} {i:TypeInfo} {z:Value} {zz:List A} (hT:P.underlying T=some (.slice e)) (hU:(∃ e2,P.underlying U=some (.slice e2))∨P.underlying U=some .string) (hinfo:P.info? e=some i) (hz:i.zero=some z) (hzs:z.cells.size=i.size)
  (hpos:0 < i.size) {id m:Nat} {ty:TypeId} {ad:Option Addr} {x:Value} {news:List Value} {new:List (List A)} (hid:s.mem id=.fresh) (hx:zaP2 P w i.size m x news) (hm':m=new.length) (hf:Flat (RepK w W μ) i.size news new)
  (h63:m≤maxLen) (hby:m * i.bytes≤140737488355328) :
  ∃ v w' W' μ',(Builtin.append_ #[T,U] ty #[.slice ad 0 0,x]).run P w=.ok v w'∧Rep w' W' μ' v (.own id 0 m)∧Step s.mem (setM s.mem [(id,.row ⟨false,i.size,zz,new⟩)]) w w' W W' μ μ':=by
 subst hm'
 by_cases h0:new.length=0
 ·have hn:new=[]:=List.eq_nil_of_length_eq_zero h0
  subst hn
  have hnews:news=[]:=List.eq_nil_of_length_eq_zero (by simpa using hf.hl)
  subst hnews
  refine ⟨.slice ad 0 0,w,W,_,?_,?_,Step.newEmpty hm hi hlt hid hpos rfl (Keeps.refl _ w)⟩
  ·exact zau4 hT hU hinfo (m:=0) (sLen:=0) (sCap:=0) hx (by simp) (Nat.le_refl _) (fun b _=>by simp [storeCells]) (fun _=>rfl)
  ·exact zau5 (by simp) 0
 ·obtain ⟨c,hc1,hc2,hrun⟩:=zag1 (ty:=ty) (base:=ad) (sLen:=0) (sCap:=0) (olds:=[]) hT hU hinfo hz hx hf.hl (by simp)
   (fun w1 hw=>by cases ad <;> simp [Builtin.firstCells,loadCells,loadCellsFrom]) (by omega) (by omega) (by simpa using hby)
  simp only [Nat.zero_add,List.nil_append] at hrun hc1
  have hst:=Step.new (w':=w.drew.alloc (.cells (news++(Builtin.zeroCells z.cells (c - new.length)).toList).toArray e)) hm hi hlt hid (r:=⟨false,i.size,zz,new⟩) (us:=news) (rest:=(Builtin.zeroCells z.cells (c - new.length)).toList) (e:=e) hpos (zR1 _ _) hf
   (by simpa using heap_alloc_new w.drew _)
  refine ⟨_,_,_,_,hrun,?_,hst⟩
  have:=zad5 (w:=w.drew.alloc (.cells (news++(Builtin.zeroCells z.cells (c - new.length)).toList).toArray e)) (W:=fun b=>W b∨b=w.heap.size)
   (μ:=fun x=>if x=id then Loc.at_ ⟨w.heap.size,i.size,news.length+(Builtin.zeroCells z.cells (c - new.length)).toList.length⟩ else μ x) (x:=id) (lo:=0) (n:=new.length) (cap:=c)
   (k:=⟨w.heap.size,i.size,news.length+(Builtin.zeroCells z.cells (c - new.length)).toList.length⟩) (by simp)
   (by simp only [Array.length_toList,size_zeroCells,hzs,hf.hl,Nat.zero_add]; rw [← Nat.add_mul]; congr 1; omega) hc1 (by omega)
  simpa using this
theorem zbU1 (hm:zap1 w W μ s.mem) (hi:∀ x y k k',μ x=.at_ k→μ y=.at_ k'→k.b=k'.b→x=y) (hlt:∀ b,W b→b < w.heap.size)
  {T U e:TypeId} {i:TypeInfo} {z:Value} {zz:List A} (hT:P.underlying T=some (.slice e)) (hU:(∃ e2,P.underlying U=some (.slice e2))∨P.underlying U=some .string) (hinfo:P.info? e=some i) (hz:i.zero=some z) (hzs:z.cells.size=i.size)
  (hpos:0 < i.size) {id:Nat} {ty:TypeId} {ad:Option Addr} {x:Value} {olds news:List Value} {es new:List (List A)} (hid:s.mem id=.fresh) (hx:zaP2 P w i.size new.length x news) (hf:Flat (RepK w W μ) i.size news new)
  (hb:zaP2 P w i.size es.length (.slice ad es.length es.length) olds) (hf0:Flat (RepK w W μ) i.size olds es) (hne:new≠[])
  (h63:es.length+new.length≤maxLen) (hby:(es.length+new.length) * i.bytes≤140737488355328) :
  ∃ v w' W' μ',(Builtin.append_ #[T,U] ty #[.slice ad es.length es.length,x]).run P w=.ok v w'∧Rep w' W' μ' v (.own id 0 (es.length+new.length))∧Step s.mem (setM s.mem [(id,.row ⟨false,i.size,zz,es++new⟩)]) w w' W W' μ μ':=by
 have h1:0 < new.length:=List.length_pos_iff.2 hne
 have hcat:Flat (RepK w W μ) i.size (olds++news) (es++new):=hf0.append hf
 obtain ⟨c,hc1,hc2,hrun⟩:=zag1 (ty:=ty) (base:=ad) (sLen:=es.length) (sCap:=es.length) (olds:=olds) hT hU hinfo hz hx hf.hl hf0.hl
  (fun w1 hw=>by
   have:=(hb w1 hw).2 es.length (Nat.le_refl _)
   rwa [← hf0.hl,List.take_length] at this) (by omega) h63 hby
 have hst:=Step.new (w':=w.drew.alloc (.cells ((olds++news)++(Builtin.zeroCells z.cells (c - (es.length+new.length))).toList).toArray e)) hm hi hlt hid (r:=⟨false,i.size,zz,es++new⟩) (us:=olds++news) (rest:=(Builtin.zeroCells z.cells (c - (es.length+new.length))).toList) (e:=e) hpos (zR1 _ _) hcat
  (by simpa using heap_alloc_new w.drew _)
 refine ⟨_,_,_,_,hrun,?_,hst⟩
 have:=zad5 (w:=w.drew.alloc (.cells ((olds++news)++(Builtin.zeroCells z.cells (c - (es.length+new.length))).toList).toArray e)) (W:=fun b=>W b∨b=w.heap.size)
  (μ:=fun x=>if x=id then Loc.at_ ⟨w.heap.size,i.size,(olds++news).length+(Builtin.zeroCells z.cells (c - (es.length+new.length))).toList.length⟩ else μ x) (x:=id) (lo:=0) (n:=es.length+new.length) (cap:=c)
  (k:=⟨w.heap.size,i.size,(olds++news).length+(Builtin.zeroCells z.cells (c - (es.length+new.length))).toList.length⟩) (by simp)
  (by simp only [Array.length_toList,size_zeroCells,hzs,hcat.hl,Nat.zero_add,List.length_append]; rw [← Nat.add_mul]; congr 1; omega) hc1 (by omega)
 simpa using this
theorem zbU2 (hs:SatW E s a w W μ) {x y:Operand} {T U:TypeId} {sz bytes id:Nat} {zz:List A} {ax ay:A} {ef:Ef} (ho:o.op=.call { callee:=.builtin .append,args:=#[x,y],argTypes:=#[T,U] }) (hT:zbr7 P T U sz bytes=true)
  (hx:Rep w W μ (a.eval x) ax) (hy:Rep w W μ (a.eval y) ay) (hid:s.mem id=.fresh) (he:ev id s.mem (.append sz bytes zz) [ax,ay]=some ef) (hobl:ef.obl):zh5 P o a w W μ s.mem ef.v (setM s.mem ef.mw):=by
 obtain ⟨e,i,z,hu,hinfo,hsz,hbytes,hz,hzs,hU⟩:=zbe6 hT
 subst hsz
 subst hbytes
 have fin:∀ v w' W' μ',(Builtin.append_ #[T,U] o.type #[a.eval x,a.eval y]).run P w=.ok v w'→Rep w' W' μ' v ef.v→Step s.mem (setM s.mem ef.mw) w w' W W' μ μ'→zh5 P o a w W μ s.mem ef.v (setM s.mem ef.mw):=fun v w' W' μ' h1 h2 h3 =>
  ⟨.value v,v,w',W',μ',by simp [execOp,ho,resolve,invoke,builtin,h1],.inl rfl,h2,h3⟩
 simp only [ev] at he
 cases hel:zas5 s.mem ay with
 | none=>simp [hel] at he
 | some new =>
  simp only [hel,Option.bind_some] at he
  split at he
  ·rename_i es
   cases he
   obtain ⟨hpos,hes,hall0,hok,hall,hby,h63⟩:=hobl
   obtain ⟨news,hsrc,hf⟩:=zbw7 (P:=P) hs hy hel hok hall
   obtain ⟨_,ad,hv⟩:=RepC.of_full (show RepC w W (a.eval x) (.full es) from hx)
   by_cases h0:es=[]
   ·subst h0
    obtain ⟨v,w',W',μ',h1,h2,h3⟩:=zbB4 (zz:=zz) (ty:=o.type) (ad:=ad) hs.mem hs.inj hs.wlt hu hU hinfo hz hzs hpos hid hsrc rfl hf (by simpa using h63) (by simpa using hby)
    exact fin v w' W' μ' (by rw [hv]; exact h1) (by simpa using h2) (by simpa using h3)
   ·obtain ⟨olds,hsrc0,hf0⟩:=zbw7 (P:=P) hs hx (new:=es) rfl trivial hall0
    rw [hv] at hsrc0
    obtain ⟨v,w',W',μ',h1,h2,h3⟩:=zbU1 (zz:=zz) (ty:=o.type) (ad:=ad) hs.mem hs.inj hs.wlt hu hU hinfo hz hzs hpos hid hsrc hf hsrc0 hf0 (hes.resolve_left h0) h63 hby
    exact fin v w' W' μ' (by rw [hv]; exact h1) h2 h3
  ·rename_i y0 lo n
   split at he
   ·rename_i r hr
    cases he
    obtain ⟨hro,rfl,hn,hrsz,hok,hall,hby,h63⟩:=hobl
    obtain ⟨news,hsrc,hf⟩:=zbw7 (P:=P) hs hy hel hok hall
    have hne:id≠y0:=fun e=>by subst e; rw [hid] at hr; cases hr
    have hkill:=Step.kill (x:=y0) hs.mem hs.inj hs.wlt
    have hid':setM s.mem [(y0,.dead)] id=.fresh:=by simp [setM,hne,hid]
    rcases hs.own hx hr with ⟨hn0,ad,hv⟩|⟨k,cap,h5,h6,h7,h8,h9,hrow⟩
    ·subst hn0
     have hes:r.es=[]:=List.eq_nil_of_length_eq_zero hn.symm
     have hpos:0 < i.size:=by
      have:=hs.mem y0
      rw [hr] at this
      rcases this with ⟨_,_,h⟩|⟨k,_,h⟩
      ·exact hrsz ▸ h
      ·exact hrsz ▸ h.2.2.1
     have hf':Flat (RepK w W (fun y=>if y=y0 then .dead else μ y)) i.size news new:=hf.mono fun u b hub=>hub.step hkill
     obtain ⟨v,w',W',μ',h1,h2,h3⟩:=zbB4 (s:=⟨s.fr,setM s.mem [(y0,.dead)]⟩) (zz:=r.z) (ty:=o.type) (ad:=ad) hkill.mem hkill.inj hkill.wlt hu hU hinfo hz hzs hpos hid' hsrc rfl hf' (by omega) (by simpa using hby)
     refine fin v w' W' μ' (by rw [hv]; exact h1) (by simpa using h2) ?_
     rw [hes]
     exact hkill.trans h3
    ·have hrow':=hrow
     obtain ⟨_,hksz,hpos,us0,rest,e0,hheap,htot,hf0⟩:=hrow
     rw [hrsz] at hksz hpos hf0
     rw [hksz] at h7
     simp only [Nat.zero_add,Nat.zero_mul,hksz] at h6 h7 h9
     have hcat:Flat (RepK w W μ) i.size (us0++news) (r.es++new):=hf0.append hf
     by_cases hroom:n+new.length≤cap
     ·have hlr:news.length≤rest.length:=by
       have e1:=hf0.hl
       have e2:=hf.hl
       have e3:(n+new.length) * i.size≤cap * i.size:=Nat.mul_le_mul_right _ hroom
       rw [Nat.add_mul] at e3
       rw [hn] at e3
       omega
      have hul:us0.length=n * i.size:=by rw [hf0.hl,hn]
      have hone:∀ u ∈ news,u.oneCell'=true:=fun u hu'=>by
       obtain ⟨q,hq⟩:=List.getElem?_of_mem hu'
       have hq1:=(List.getElem?_eq_some_iff.1 hq).1
       have hql:q / i.size < new.length:=by rw [hf.hl] at hq1; exact (Nat.div_lt_iff_lt_mul hpos).2 hq1
       have hc:=List.getElem?_eq_getElem hql
       have hcl:=hf.hs _ _ hc
       have hj:q % i.size < (new[q / i.size]).length:=by rw [hcl]; exact Nat.mod_lt _ hpos
       obtain ⟨u',hu2,hr2⟩:=hf.ha _ _ _ _ hc (List.getElem?_eq_getElem hj)
       rw [Nat.div_add_mod'] at hu2
       rw [hq] at hu2; cases hu2
       exact hr2.oneCell
      have hst:=run_storeCells_at P k.b (n * i.size) e0 news 0 (us0++rest).toArray w hheap (by simp; omega) hone
      simp only [Nat.add_zero] at hst
      have e1:(us0++rest).take (n * i.size)=us0:=by rw [← hul]; exact List.take_left
      have e2:(us0++rest).drop (n * i.size+news.length)=rest.drop news.length:=by rw [← hul,List.drop_append]; simp
      rw [e1,e2] at hst
      have hrun:=zau4 (ty:=o.type) (base:=some ⟨k.b,0,none⟩) (sLen:=n) (sCap:=cap) hu hU hinfo hsrc hf.hl hroom (w':=w.setRow k.b ((us0++news)++rest.drop news.length).toArray)
       (fun ad had=>by cases had; rw [Addr.add_lit,Nat.zero_add]; exact hst) (by simp)
      refine fin _ _ W _ (by rw [h6]; exact hrun) ?_ (Step.moved hs.mem hs.inj hs.wlt h5 hr hro (id:=id) (r':=⟨false,i.size,r.z,r.es++new⟩) hrsz.symm hid (zao2 _ _ _) hcat (setRow_heap w k.b _ _ e0 _ hheap) (by simp; omega))
      have:=zad5 (w:=w.setRow k.b ((us0++news)++rest.drop news.length).toArray) (W:=W) (μ:=fun y=>if y=id then .at_ k else if y=y0 then .dead else μ y) (x:=id) (lo:=0) (n:=n+new.length) (k:=k) (cap:=cap) (by simp) (by rw [hksz,h7]; simp) hroom (by omega)
      simpa using this
     ·obtain ⟨c,hc1,hc2,hrun⟩:=zag1 (ty:=o.type) (base:=some ⟨k.b,0,none⟩) (sLen:=n) (sCap:=cap) (olds:=us0) hu hU hinfo hz hsrc hf.hl (by rw [hf0.hl,hn])
       (fun w1 hw=>run_firstCells_some w1 i.size n ⟨k.b,0,none⟩ n cap us0 (by rw [hf0.hl,hn]) fun j u hj=>by
        rw [Addr.add_lit,Nat.zero_add]
        simp only [World.cell?,hw,hheap,Option.isSome_none,Bool.false_eq_true,if_false,List.getElem?_toArray]
        rw [List.getElem?_append_left (List.getElem?_eq_some_iff.1 hj).1,hj]) (by omega) h63 hby
      have hcat':Flat (RepK w W (fun y=>if y=y0 then .dead else μ y)) i.size (us0++news) (r.es++new):=hcat.mono fun u b hub=>hub.step hkill
      have hst:=Step.new (w':=w.drew.alloc (.cells ((us0++news)++(Builtin.zeroCells z.cells (c - (n+new.length))).toList).toArray e)) hkill.mem hkill.inj hkill.wlt hid' (r:=⟨false,i.size,r.z,r.es++new⟩) (us:=us0++news) (rest:=(Builtin.zeroCells z.cells (c - (n+new.length))).toList) (e:=e) hpos (zR1 _ _) hcat'
       (by simpa using heap_alloc_new w.drew _)
      refine fin _ _ _ _ (by rw [h6]; exact hrun) ?_ (hkill.trans hst)
      have:=zad5 (w:=w.drew.alloc (.cells ((us0++news)++(Builtin.zeroCells z.cells (c - (n+new.length))).toList).toArray e)) (W:=fun b=>W b∨b=w.heap.size)
       (μ:=fun x=>if x=id then Loc.at_ ⟨w.heap.size,i.size,(us0++news).length+(Builtin.zeroCells z.cells (c - (n+new.length))).toList.length⟩ else if x=y0 then .dead else μ x) (x:=id) (lo:=0) (n:=n+new.length) (cap:=c)
       (k:=⟨w.heap.size,i.size,(us0++news).length+(Builtin.zeroCells z.cells (c - (n+new.length))).toList.length⟩) (by simp)
       (by simp only [Array.length_toList,size_zeroCells,hzs,hcat.hl,Nat.zero_add,List.length_append,← hn]; rw [← Nat.add_mul]; congr 1; omega) hc1 (by omega)
      simpa using this
   ·cases he
  ·cases he
theorem zfc1 (hs:SatW E s a w W μ) {x y:Operand} {T U:TypeId} {sz bytes:Nat} {es:List (List A)} (ho:o.op=.call { callee:=.builtin .append,args:=#[x,y],argTypes:=#[T,U] }) (hT:zbr7 P T U sz bytes=true)
  (hx:Rep w W μ (a.eval x) (.full [])) (hy:Rep w W μ (a.eval y) (.sl es)) (hall:zF2 sz es) (hby:es.length * bytes≤140737488355328) (h63:es.length≤maxLen):zh5 P o a w W μ s.mem (.sl es) s.mem:=by
 obtain ⟨e,i,z,hu,hinfo,hsz,hbytes,hz,hzs,hU⟩:=zbe6 hT
 subst hsz
 subst hbytes
 obtain ⟨_,ad,hv⟩:=RepC.of_full (show RepC w W (a.eval x) (.full []) from hx)
 have fin:∀ v w',(Builtin.append_ #[T,U] o.type #[a.eval x,a.eval y]).run P w=.ok v w'→RepC w' W v (.sl es)→Keeps (fun _=>False) w w'→zh5 P o a w W μ s.mem (.sl es) s.mem:=fun v w' h1 h2 h3 =>
  ⟨.value v,v,w',W,μ,by simp [execOp,ho,resolve,invoke,builtin,h1],.inl rfl,zE1 h2,Step.quiet h3 hs.mem hs.inj hs.wlt⟩
 rcases (show RepC w W (a.eval y) (.sl es) from hy).open_sl with ⟨rfl,ad2,cap,hv2⟩|⟨b,off,cap,sz',us,hv2,hb,hlt,hn,hcap,hf,hc⟩
 ·refine fin (.slice ad 0 0) w ?_ (.sl0 _ _) (Keeps.refl _ w)
  rw [hv,hv2]
  exact zau4 hu hU hinfo (m:=0) (sLen:=0) (sCap:=0) (news:=[]) (zai3 (by simp) (by simp) (by simp)) (by simp) (Nat.le_refl _) (fun b _=>by simp [storeCells]) (fun _=>rfl)
 ·have hsz:sz'=i.size:=by
   have h0:es[0]? = some es[0]:=by simp
   rw [← hf.hs _ _ h0]; exact hall _ (List.mem_of_getElem? h0)
  subst hsz
  have hsrc:zaP2 P w i.size es.length (a.eval y) us:=by
   rw [hv2]
   exact zai3 hf.hl (fun ad had j u hj=>by cases had; rw [Addr.add_lit]; exact hc j u hj) (by simp)
  obtain ⟨c,hc1,hc2,hrun⟩:=zag1 (ty:=o.type) (base:=ad) (sLen:=0) (sCap:=0) (olds:=[]) hu hU hinfo hz hsrc hf.hl (by simp)
   (fun w1 hw=>by cases ad <;> simp [Builtin.firstCells,loadCells,loadCellsFrom]) (by omega) (by omega) (by simpa using hby)
  simp only [Nat.zero_add,List.nil_append] at hrun hc1
  have hk:=zR1 w (.cells (us++(Builtin.zeroCells z.cells (c - es.length)).toList).toArray e)
  have hfc:Flat (RepC (w.drew.alloc (.cells (us++(Builtin.zeroCells z.cells (c - es.length)).toList).toArray e)) W) i.size us es:=hf.mono fun u b hr=>hr.keep hk (fun _ _ _ h=>h) (fun _ _ h=>h)
  refine fin _ _ (by rw [hv]; exact hrun) (RepC.mk_sl (b:=w.heap.size) (off:=0) (fun h=>absurd (hs.wlt _ h) (Nat.lt_irrefl _)) (by simp) hc1 hfc fun q u hq=>?_) hk
  rw [Nat.zero_add,show w.heap.size=w.drew.heap.size from rfl,World.cell?_alloc_new]
  rw [List.getElem?_toArray,List.getElem?_append_left (List.getElem?_eq_some_iff.1 hq).1,hq]
end
end Ab
end Go.Proofs.YtebopmkhhppfaaaGreatDoor
