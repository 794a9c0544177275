import Derived.Test.YtfkjffmjkbkmhaaGreatDoorAb12
import Derived.Lib.ConvBytes
import Derived.Laws.BytesArg
namespace Go.Proofs.YtfkjffmjkbkmhaaGreatDoor
namespace Ab
set_option linter.unusedSimpArgs false
set_option linter.unusedVariables false
section
variable {P:Program} {o:Oper} {a:Act} {E:Env} {s:S} {w:World} {W:Nat→Prop} {μ:Nat→Loc}
theorem zo9.mw {av:A} {m m' m'':Nat→MS} (h:zo9 P o a w W μ m av m') (e:m'=m''):zo9 P o a w W μ m av m'':=e ▸ h
theorem zbm8 {parts:List (Nat×Operand)} {vs:List A} (h:Vals w W μ a (parts.map (·.2)) vs) :
  parts.length=vs.length∧∀ (i:Nat) (p:Nat×Operand) (x:A),parts[i]? = some p→vs[i]? = some x→Rep w W μ (a.eval p.2) x :=
 ⟨by simpa using h.1,fun i p x h1 h2=>h.2 i p.2 x (by simp [h1]) h2⟩
theorem zbz6 {x:Operand} (h:zbu6 x=true):x=.const (.slice none 0 0):=by
 unfold zbu6 at h
 split at h
 ·rfl
 ·cases h
theorem zbV2:∀ {xs:List A},allK xs=true→∀ x ∈ xs,x.isK=true
 | x :: xs,h,y,hy=>by
  simp only [allK,bS] at h
  rcases cE.1 hy with rfl|hy
  ·exact h.1
  ·exact zbV2 h.2 y hy
theorem zbr0 {T:TypeId} (h:zbE7 P T=true):∃ e,P.underlying T=some (.slice e)∧P.underlying e=some (.int .u8):=by
 unfold zbE7 at h
 split at h
 ·rename_i e he
  obtain ⟨d,hd,hd2⟩:=zO7 h
  refine ⟨e,he,?_⟩
  cases d <;> simp [zcb3] at hd2
  subst hd2; exact hd
 ·cases h
theorem zcS7:∀ {es:List (List A)} {l:List Int},u8s es=some l→es=l.map fun n=>[A.int .u8 n]
 | [],l,h=>by simp [u8s] at h; subst h; rfl
 | c :: cs,l,h=>by
  unfold u8s at h
  split at h
  ·cases ‹_=[]›
  ·rename_i n cs' heq
   cases heq
   obtain ⟨l',h1,rfl⟩:=cG.1 h
   rw [eD,← zcS7 h1]
  ·cases h
theorem zcB6 {R:Value→A→Prop} (hR:∀ u n,R u (.int .u8 n)→u=.int .u8 n) {sz:Nat} {us:List Value} {l:List Int} (h:Flat R sz us (l.map fun n=>[A.int .u8 n])) (hl:l≠[]):sz=1∧us=l.map (Value.int .u8):=by
 have hsz:sz=1:=by
  cases l with
  | nil=>exact absurd rfl hl
  | cons n l=>exact (h.hs 0 [A.int .u8 n] rfl).symm
 subst hsz
 refine ⟨rfl,List.ext_getElem? fun i=>?_⟩
 by_cases hi:i < l.length
 ·obtain ⟨u,hu,hr⟩:=h.ha i [A.int .u8 l[i]] 0 _ (by simp [hi]) rfl
  simp only [gK,Nat.add_zero] at hu
  rw [hu,hR u _ hr]
  simp [hi]
 ·rw [gX (by have:=h.hl; simp at this; omega),gX (by simp; omega)]
theorem zdx6 (hs:SatW E s a w W μ) {x:Operand} {T T2 e:TypeId} {ax:A} {es:List (List A)} {l:List Int} (ho:o.op=.convert T T2 x) (hT:P.underlying T=some (.slice e)) (he:P.underlying e=some (.int .u8)) (hT2:P.underlying T2=some .string)
  (hx:Rep w W μ (a.eval x) ax) (hns:ax.isStr=false) (hel:zaF7 s.mem ax=some es) (hl:u8s es=some l) (hok:zaj3 s.mem ax):zo9 P o a w W μ s.mem (.str (zbm4 l)) s.mem:=by
 have hes:=zcS7 hl
 subst hes
 have hR:∀ u n,RepK w W μ u (.int .u8 n)→u=.int .u8 n:=fun u n h=>Rep.int (zp1 (zo5 h))
 have hRC:∀ u n,RepC w W u (.int .u8 n)→u=.int .u8 n:=fun u n h=>hR u n (zq1 h)
 have fin:(convert T T2 (a.eval x)).run P w=.ok (.string (strOfNums l)) w→zo9 P o a w W μ s.mem (.str (zbm4 l)) s.mem:=fun h =>
  ⟨.value (.string (strOfNums l)),.string (strOfNums l),w,W,μ,by simp [execOp,ho,h],.inl rfl,zp1 (zo5 (zq1 (.str _))),hs.refl⟩
 have none_:∀ ad cap,a.eval x=.slice ad 0 cap→l=[]→zo9 P o a w W μ s.mem (.str (zbm4 l)) s.mem:=fun ad cap hv h0=>by
  subst h0
  refine fin ?_
  rw [hv]
  cases ad with
  | none=>exact run_convert_bytes_nil w T e hT he 0 cap T2 hT2
  | some b =>
   rw [run_convert_bytes_string w T T2 e _ 0 cap hT he hT2,run_bytesToString w b 0 cap [] (by simp [loadCells,loadCellsFrom])]
   rfl
 have some_:∀ b off cap,a.eval x=.slice (some ⟨b,off,none⟩) l.length cap→(∀ i,i < l.length→w.cell? ⟨b,off+i,none⟩=some (.int .u8 (l.getD i 0)))→zo9 P o a w W μ s.mem (.str (zbm4 l)) s.mem:=fun b off cap hv hc=>by
  refine fin ?_
  rw [hv]
  exact run_convert_bytes_arg w T e hT he b off l.length cap l rfl hc T2 hT2
 have plain:RepC w W (a.eval x) (.sl (l.map fun n=>[A.int .u8 n]))→zo9 P o a w W μ s.mem (.str (zbm4 l)) s.mem:=fun hx=>by
  rcases hx.open_sl with ⟨h0,ad,cap,hv⟩|⟨b,off,cap,sz,us,hv,_,_,hn,_,hf,hc⟩
  ·exact none_ ad cap hv (by simpa using h0)
  ·have hl0:l≠[]:=by rintro rfl; simp at hn
   obtain ⟨rfl,hus⟩:=zcB6 hRC hf hl0
   refine some_ b off cap (by simpa using hv) fun i hi=>hc i _ ?_
   subst hus
   simp [hi]
 unfold zaF7 at hel
 split at hel
 ·cases hel; exact plain hx
 ·cases hel; exact plain (RepC.of_full hx).1
 ·rename_i y lo n
  split at hel
  ·rename_i r hr
   simp only [dC] at hel
   simp only [zaj3,hr] at hok
   have hlen:((r.es.drop lo).take n).length=n:=by simp; omega
   have hln:l.length=n:=by rw [← hlen,hel,dD]
   rcases hs.own hx hr with ⟨rfl,ad,hv⟩|⟨k,cap,h5,h6,h7,h8,h9,hrow⟩
   ·exact none_ ad 0 hv (cW hln)
   ·obtain ⟨_,hksz,hpos,us0,rest,e0,hheap,htot,hf⟩:=hrow
    have hf2:=(hf.drop lo).take n
    rw [hel] at hf2
    by_cases hl0:l=[]
    ·subst hl0
     simp at hln
     subst hln
     refine fin ?_
     rw [h6]
     rw [run_convert_bytes_string w T T2 e _ 0 cap hT he hT2,run_bytesToString w _ 0 cap [] (by simp [loadCells,loadCellsFrom])]
     rfl
    ·obtain ⟨hsz,hus⟩:=zcB6 hR hf2 hl0
     rw [hsz,gK,gK] at hus
     refine some_ k.b (lo * k.sz) cap (by rw [h6,hln]) fun i hi=>?_
     rw [hksz,hsz,gK]
     have h10:((us0.drop lo).take n)[i]? = some (.int .u8 (l.getD i 0)):=by rw [hus]; simp [hi]
     rw [dP] at h10
     split at h10
     ·rw [dT] at h10
      simp only [World.cell?,hheap,Option.isSome_none,bU,cA,fG]
      rw [dN (cD.1 h10).1,h10]
     ·cases h10
  ·cases hel
 ·simp [A.isStr] at hns
 ·cases hel
theorem zdx7 (hs:SatW E s a w W μ) {x:Operand} {T T2 e:TypeId} {b:ByteArray} {u:TypeDesc} (ho:o.op=.convert T T2 x) (hT:P.underlying T=some u) (hT2:P.underlying T2=some (.slice e)) (he:P.underlying e=some (.int .u8))
  (hx:Rep w W μ (a.eval x) (.str b)) (hlen:b.size≤maxLen):zo9 P o a w W μ s.mem (.sl (b.toList.map fun c=>[A.int .u8 c.toNat])) s.mem:=by
 have hrun:=Lib.run_convert_string_bytes (P:=P) w T T2 e b hT hT2 he
 have hk:Keeps (fun _=>False) w (Lib.bytesWorld w e b):=⟨by unfold Lib.bytesWorld World.freeze; rw [bT (by decide)]; rfl,by unfold Lib.bytesWorld World.freeze; rw [bT (by decide)]; rfl,by unfold Lib.bytesWorld World.freeze; rw [bT (by decide)]; rfl,by unfold Lib.bytesWorld World.freeze; rw [bT (by decide)]; exact kL _,by rw [Lib.bytesWorld_size]; omega,fun j hj _=>Lib.bytesWorld_at_old w e b j hj⟩
 have htl:b.toList=b.data.toList:=ByteArray.toList_eq ..
 have hbl:b.toList.length=b.size:=by rw [htl]; rfl
 refine ⟨.value _,_,Lib.bytesWorld w e b,W,μ,by simp [execOp,ho,hx.str,hrun]; rfl,.inl rfl,?_,Step.quiet hk hs.mem hs.inj hs.wlt⟩
 refine zp1 (zo5 (zq1 ?_))
 have hll:(b.toList.map fun c=>[A.int .u8 c.toNat]).length=b.size:=by rw [dD,hbl]
 conv=>arg 3; rw [← hll]
 refine RepC.mk_sl (sz:=1) (us:=b.toList.map fun c=>Value.int .u8 c.toNat) (fun hW=>absurd (hs.wlt _ hW) (jX _)) (by rw [Lib.bytesWorld_size]; omega) (by rw [hll]; exact grownCap_ge w b.size 0 e) ?_ ?_
 ·refine ⟨by simp,fun i c hc=>?_,fun i c j q hc hq=>?_⟩
  ·simp only [cL,cG] at hc
   obtain ⟨d,_,rfl⟩:=hc
   rfl
  ·simp only [cL,cG] at hc
   obtain ⟨d,hd,rfl⟩:=hc
   cases j with
   | zero =>
    simp at hq
    subst hq
    exact ⟨_,by simp [hd],.int _ _⟩
   | succ j=>simp at hq
 ·intro q v hq
  simp only [cL,cG] at hq
  obtain ⟨d,hd,rfl⟩:=hq
  have hlt:q < b.size:=by rw [← hbl]; exact (cD.1 hd).1
  rw [dY,Lib.bytesWorld_cell w e b q hlt]
  rw [htl] at hd
  simp [List.getD,hd]
theorem zcS8 (hs:SatW E s a w W μ) {id:Nat} (hid:s.mem id=.fresh) (po:PO) (xs:List PX) (vals:List A) (hV:∀ ops,zz6 ops xs=true→Vals w W μ a ops vals) (hlen:xs.length=vals.length)
  (hchk:zbk2 P o.op po xs=true) {ef:Ef} (he:ev id s.mem po vals=some ef) (hobl:ef.obl) (hnp:po≠.pick):zo9 P o a w W μ s.mem ef.v (setM s.mem ef.mw):=by
 cases po <;> simp only [zbk2] at hchk
 case pick=>exact absurd rfl hnp
 case mv =>
  split at hchk
  ·rename_i x ho
   obtain ⟨v,rfl,hv⟩:=(hV _ hchk).one
   cases he
   exact zcS0 hs (.inl ho) hv
  ·rename_i x ho
   obtain ⟨v,rfl,hv⟩:=(hV _ hchk).one
   cases he
   exact zcS0 hs (.inr ho) hv
  ·cases hchk
 case nilown sz z =>
  have key:∀ x,(o.op=.move x∨o.op=.assign x)→(zbu6 x&&xs.length == 1)=true→zo9 P o a w W μ s.mem ef.v (setM s.mem ef.mw):=fun x ho h=>by
   simp only [bS,dI] at h
   match vals,(show vals.length=1 by omega) with
   | [v],_ =>
    cases he
    exact zcS1 hs ho (zbz6 h.1) hid hobl
  split at hchk
  ·rename_i x ho; exact key x (.inl ho) hchk
  ·rename_i x ho; exact key x (.inr ho) hchk
  ·cases hchk
 case box n =>
  split at hchk
  ·rename_i T x ho
   obtain ⟨v,rfl,hv⟩:=(hV _ hchk).one
   cases he
   exact zdx1 hs ho hv hid hobl.1 hobl.2.1 hobl.2.2
  ·cases hchk
 case alloc n z =>
  split at hchk
  ·rename_i T ho
   simp only [bS,dI] at hchk
   obtain ⟨⟨h1,h2⟩,h3⟩:=hchk
   have:vals=[]:=by
    have:xs=[]:=by simpa using h3
    subst this
    exact cW hlen.symm
   subst this
   subst h2
   cases he
   exact zdi1 hs ho h1 hid hobl.1
  ·cases hchk
 case build z ps =>
  split at hchk
  ·rename_i T parts ho
   simp only [bS] at hchk
   obtain ⟨⟨h1,h2⟩,h3⟩:=hchk
   obtain ⟨h4,h5⟩:=zbm8 (hV _ h3)
   cases vals <;> (cases he; exact zdi3 hs ho h1 h2 h4 h5 hobl)
  ·cases hchk
 case bslice sz z =>
  split at hchk
  ·rename_i T n parts ho
   simp only [bS,dI] at hchk
   obtain ⟨⟨⟨h0,h1⟩,h2⟩,h3⟩:=hchk
   obtain ⟨h4,h5⟩:=zbm8 (hV _ h3)
   cases vals <;> (cases he; exact zcS4 hs ho (by omega) h1 h2 h4 hobl.2.2.2.2 h5 hobl.2.1 hobl.2.2.1 hobl.2.2.2.1)
  ·cases hchk
 case bown sz z =>
  split at hchk
  ·rename_i T n parts ho
   simp only [bS,dI] at hchk
   obtain ⟨⟨⟨h0,h1⟩,h2⟩,h3⟩:=hchk
   obtain ⟨h4,h5⟩:=zbm8 (hV _ h3)
   cases vals <;> (cases he; exact zdq1 hs ho (by omega) h1 h2 h4 hobl.2.2.2 h5 hid hobl.1 hobl.2.1 hobl.2.2.1)
  ·cases hchk
 case load n ag =>
  split at hchk
  ·rename_i T x ho
   simp only [bS] at hchk
   obtain ⟨v,rfl,hv⟩:=(hV _ hchk.2).one
   refine (zdp7 hs ho hchk.1 hv he hobl).mw ?_
   simp only [ev] at he
   split at he
   ·split at he <;> first|(cases he; rfl)|cases he
   ·cases he; rfl
   ·cases he
  ·cases hchk
 case store n =>
  split at hchk
  ·rename_i T x y ho
   simp only [bS] at hchk
   obtain ⟨v,u,rfl,hv,hu⟩:=(hV _ hchk.2).two
   exact zdi2 hs ho hchk.1 hv hu he hobl
  ·cases hchk
 case bin b =>
  split at hchk
  ·rename_i b' T x y T2 ho
   simp only [bS,dI] at hchk
   obtain ⟨rfl,h2⟩:=hchk
   obtain ⟨v,u,rfl,hv,hu⟩:=(hV _ h2).two
   simp only [ev,cG] at he
   obtain ⟨q,hq,rfl⟩:=he
   exact zdw3 hs ho hv hu hq hobl
  ·cases hchk
 case eqb neg =>
  split at hchk
  ·rename_i b' T x y T2 ho
   simp only [bS,dI] at hchk
   obtain ⟨⟨rfl,h2⟩,h3⟩:=hchk
   obtain ⟨v,u,rfl,hv,hu⟩:=(hV _ h3).two
   obtain ⟨d,hd,hd2⟩:=zO7 h2
   have hT:P.underlying T=some .bool:=by cases d <;> simp [zcS6] at hd2; exact hd
   cases v <;> simp only [ev] at he <;> try (cases he; done)
   cases u <;> simp only [ev] at he <;> try (cases he; done)
   cases he
   exact zdx0 hs ho hT hv hu
  ·cases hchk
 case eqa neg ks =>
  split at hchk
  ·rename_i b' T x y T2 ho
   simp only [bS,dI,cS] at hchk
   obtain ⟨⟨⟨⟨rfl,h2⟩,h3⟩,h4⟩,h5⟩:=hchk
   obtain ⟨v,u,rfl,hv,hu⟩:=(hV _ h5).two
   cases v <;> simp only [ev] at he <;> try (cases he; done)
   cases u <;> simp only [ev] at he <;> try (cases he; done)
   cases he
   exact zdx3 hs ho h2 h3 h4 hv hu hobl.1 hobl.2
  ·cases hchk
 case not =>
  split at hchk
  ·rename_i T x ho
   obtain ⟨v,rfl,hv⟩:=(hV _ hchk).one
   cases v <;> simp only [ev] at he <;> try (cases he; done)
   cases he
   exact zdw1 hs ho hv
  ·cases hchk
 case neg =>
  split at hchk
  ·rename_i T x ho
   obtain ⟨v,rfl,hv⟩:=(hV _ hchk).one
   cases v <;> simp only [ev] at he <;> try (cases he; done)
   cases he
   exact zdw2 hs ho hv
  ·cases hchk
 case field off n ag =>
  split at hchk
  ·rename_i T x f ho
   simp only [bS] at hchk
   obtain ⟨v,rfl,hv⟩:=(hV _ hchk.2).one
   refine (zdh8 hs ho hchk.1 hv he hobl).mw ?_
   cases v <;> simp only [ev] at he <;> first|(cases he; rfl)|cases he
  ·cases hchk
 case faddr off =>
  split at hchk
  ·rename_i T x f ho
   simp only [bS] at hchk
   obtain ⟨v,rfl,hv⟩:=(hV _ hchk.2).one
   refine (zdh7 hs ho hchk.1 hv he).mw ?_
   simp only [ev] at he
   split at he
   ·split at he <;> first|(cases he; rfl)|cases he
   ·cases he; rfl
   ·cases he
  ·cases hchk
 case iaA n sz =>
  split at hchk
  ·rename_i T x i ho
   simp only [bS] at hchk
   obtain ⟨v,u,rfl,hv,hu⟩:=(hV _ hchk.2).two
   refine (zdw6 hs ho hchk.1 hv hu he hobl).mw ?_
   cases u <;> simp only [ev] at he <;> try (cases he; done)
   split at he
   ·split at he <;> first|(cases he; rfl)|cases he
   ·cases he; rfl
   ·cases he
  ·cases hchk
 case iaS sz z =>
  split at hchk
  ·rename_i T x i ho
   simp only [bS] at hchk
   obtain ⟨v,u,rfl,hv,hu⟩:=(hV _ hchk.2).two
   refine (zdw7 hs ho hchk.1 hv hu he hobl).mw ?_
   cases u <;> simp only [ev] at he <;> try (cases he; done)
   split at he
   ·cases he; rfl
   ·cases he; rfl
   ·split at he <;> first|(cases he; rfl)|cases he
   ·cases he
  ·cases hchk
 case idxA n sz ag =>
  split at hchk
  ·rename_i T x i ho
   simp only [bS] at hchk
   obtain ⟨v,u,rfl,hv,hu⟩:=(hV _ hchk.2).two
   refine (zdp8 hs ho hchk.1 hv hu he hobl).mw ?_
   cases v <;> simp only [ev] at he <;> try (cases he; done)
   cases u <;> simp only [ev] at he <;> try (cases he; done)
   cases he; rfl
  ·cases hchk
 case idxS =>
  split at hchk
  ·rename_i T x i ho
   simp only [bS] at hchk
   obtain ⟨v,u,rfl,hv,hu⟩:=(hV _ hchk.2).two
   obtain ⟨d,hd,hd2⟩:=zO7 hchk.1
   have hT:P.underlying T=some .string:=by cases d <;> simp [zat4] at hd2; exact hd
   cases v <;> simp only [ev] at he <;> try (cases he; done)
   cases u <;> simp only [ev] at he <;> try (cases he; done)
   cases he
   exact zdq3 hs ho hT hv hu hobl.1 hobl.2
  ·cases hchk
 case slc sz l h m =>
  split at hchk
  ·rename_i T x lo hi mx ho
   simp only [bS,dI] at hchk
   obtain ⟨⟨⟨⟨⟨h1,h2⟩,rfl⟩,rfl⟩,rfl⟩,h6⟩:=hchk
   have V:=hV _ h6
   obtain ⟨d,hd,hd2⟩:=zO7 h1
   have fin:∀ v,Rep w W μ (a.eval x) v→∀ l h m,Bds (lo.map a.eval) (hi.map a.eval) (mx.map a.eval) l h m→(if v.isStr then none else (zaw9 s.mem sz v l h m).map fun q=>(⟨q.1,q.2,[]⟩:Ef))=some ef→zo9 P o a w W μ s.mem ef.v (setM s.mem ef.mw):=fun v hv l h m hb hq=>by
    split at hq
    ·cases hq
    ·rename_i hns
     simp only [cG] at hq
     obtain ⟨q,hq,rfl⟩:=hq
     refine zdo0 hs ho h2 hv ⟨fun ⟨b,hb⟩=>?_,fun hu=>?_⟩ hb hq hobl
     ·subst hb; exact absurd rfl hns
     ·rw [hd] at hu; cases hu; simp [zbh0] at hd2
   cases lo with
   | none =>
    cases hi with
    | none =>
     cases mx with
     | none =>
      obtain ⟨v,rfl,hv⟩:=V.one
      exact fin v hv none none none ⟨.inl ⟨rfl,rfl⟩,.inl ⟨rfl,rfl⟩,.inl ⟨rfl,rfl⟩⟩ he
     | some m0 =>
      obtain ⟨v,u,rfl,hv,hu⟩:=V.two
      exact absurd he (by simp [ev])
    | some h0 =>
     cases mx with
     | none =>
      obtain ⟨v,u,rfl,hv,hu⟩:=V.two
      cases u <;> simp only [ev,Option.isSome] at he <;> try (cases he; done)
      exact fin v hv none (some _) none ⟨.inl ⟨rfl,rfl⟩,.inr ⟨_,_,cQ some hu.int,rfl⟩,.inl ⟨rfl,rfl⟩⟩ he
     | some m0 =>
      obtain ⟨v,u,t,rfl,hv,hu,ht⟩:=V.three
      cases u <;> simp only [ev,Option.isSome] at he <;> try (cases he; done)
      cases t <;> (try simp only at he) <;> try (cases he; done)
      exact fin v hv none (some _) (some _) ⟨.inl ⟨rfl,rfl⟩,.inr ⟨_,_,cQ some hu.int,rfl⟩,.inr ⟨_,_,cQ some ht.int,rfl⟩⟩ he
   | some l0 =>
    cases hi with
    | none =>
     cases mx with
     | none =>
      obtain ⟨v,u,rfl,hv,hu⟩:=V.two
      cases u <;> simp only [ev,Option.isSome] at he <;> try (cases he; done)
      exact fin v hv (some _) none none ⟨.inr ⟨_,_,cQ some hu.int,rfl⟩,.inl ⟨rfl,rfl⟩,.inl ⟨rfl,rfl⟩⟩ he
     | some m0 =>
      obtain ⟨v,u,t,rfl,hv,hu,ht⟩:=V.three
      exact absurd he (by simp [ev])
    | some h0 =>
     cases mx with
     | none =>
      obtain ⟨v,u,t,rfl,hv,hu,ht⟩:=V.three
      cases u <;> simp only [ev,Option.isSome] at he <;> try (cases he; done)
      cases t <;> (try simp only at he) <;> try (cases he; done)
      exact fin v hv (some _) (some _) none ⟨.inr ⟨_,_,cQ some hu.int,rfl⟩,.inr ⟨_,_,cQ some ht.int,rfl⟩,.inl ⟨rfl,rfl⟩⟩ he
     | some m0 =>
      obtain ⟨v,u,t,r,rfl,hv,hu,ht,hr⟩:=V.four
      cases u <;> simp only [ev,Option.isSome] at he <;> try (cases he; done)
      cases t <;> (try simp only at he) <;> try (cases he; done)
      cases r <;> (try simp only at he) <;> try (cases he; done)
      exact fin v hv (some _) (some _) (some _) ⟨.inr ⟨_,_,cQ some hu.int,rfl⟩,.inr ⟨_,_,cQ some ht.int,rfl⟩,.inr ⟨_,_,cQ some hr.int,rfl⟩⟩ he
  ·cases hchk
 case slcS l h =>
  split at hchk
  ·rename_i T x lo hi mx ho
   simp only [bS,dI] at hchk
   obtain ⟨⟨⟨⟨h1,rfl⟩,rfl⟩,h4⟩,h6⟩:=hchk
   have V:=hV _ h6
   obtain ⟨d,hd,hd2⟩:=zO7 h1
   have hT:P.underlying T=some .string:=by cases d <;> simp [zat4] at hd2; exact hd
   have h2:zbG7 P T 0=true:=by simp [zbG7,hT]
   have hmx:mx=none:=by simpa using h4
   subst hmx
   have fin:∀ b,Rep w W μ (a.eval x) (.str b)→∀ l h,Bds (lo.map a.eval) (hi.map a.eval) none l h none→((zaw9 s.mem 0 (.str b) l h none).map fun q=>(⟨q.1,q.2,[]⟩:Ef))=some ef→zo9 P o a w W μ s.mem ef.v (setM s.mem ef.mw):=fun b hv l h hb hq=>by
    simp only [cG] at hq
    obtain ⟨q,hq,rfl⟩:=hq
    exact zdo0 hs ho h2 hv ⟨fun _=>hT,fun _=>⟨b,rfl⟩⟩ hb hq hobl
   cases lo with
   | none =>
    cases hi with
    | none =>
     obtain ⟨v,rfl,hv⟩:=V.one
     cases v <;> simp only [ev,Option.isSome] at he <;> try (cases he; done)
     exact fin _ hv none none ⟨.inl ⟨rfl,rfl⟩,.inl ⟨rfl,rfl⟩,.inl ⟨rfl,rfl⟩⟩ he
    | some h0 =>
     obtain ⟨v,u,rfl,hv,hu⟩:=V.two
     cases v <;> simp only [ev,Option.isSome] at he <;> try (cases he; done)
     cases u <;> (try simp only at he) <;> try (cases he; done)
     exact fin _ hv none (some _) ⟨.inl ⟨rfl,rfl⟩,.inr ⟨_,_,cQ some hu.int,rfl⟩,.inl ⟨rfl,rfl⟩⟩ he
   | some l0 =>
    cases hi with
    | none =>
     obtain ⟨v,u,rfl,hv,hu⟩:=V.two
     cases v <;> simp only [ev,Option.isSome] at he <;> try (cases he; done)
     cases u <;> (try simp only at he) <;> try (cases he; done)
     exact fin _ hv (some _) none ⟨.inr ⟨_,_,cQ some hu.int,rfl⟩,.inl ⟨rfl,rfl⟩,.inl ⟨rfl,rfl⟩⟩ he
    | some h0 =>
     obtain ⟨v,u,t,rfl,hv,hu,ht⟩:=V.three
     cases v <;> simp only [ev,Option.isSome] at he <;> try (cases he; done)
     cases u <;> (try simp only at he) <;> try (cases he; done)
     cases t <;> (try simp only at he) <;> try (cases he; done)
     exact fin _ hv (some _) (some _) ⟨.inr ⟨_,_,cQ some hu.int,rfl⟩,.inr ⟨_,_,cQ some ht.int,rfl⟩,.inl ⟨rfl,rfl⟩⟩ he
  ·cases hchk
 case ext i =>
  split at hchk
  ·rename_i x i' ho
   simp only [bS,dI] at hchk
   obtain ⟨rfl,h2⟩:=hchk
   obtain ⟨v,rfl,hv⟩:=(hV _ h2).one
   cases v <;> simp only [ev] at he <;> try (cases he; done)
   cases he
   exact zdw4 hs ho hv hobl
  ·cases hchk
 case len =>
  split at hchk
  ·rename_i args ats ho
   split at hchk
   ·rename_i x t hx ht
    simp only [bS] at hchk
    obtain ⟨v,rfl,hv⟩:=(hV _ hchk.2).one
    obtain ⟨d,hd,hd2⟩:=zO7 hchk.1
    have hT:∃ e,P.underlying t=some (.slice e):=by cases d <;> simp [zbh0] at hd2; exact ⟨_,hd⟩
    have ha:args=#[x]:=by rw [← hx]
    have hat:ats[0]? = some t:=by
     have:ats=#[t]:=by rw [← ht]
     rw [this]; rfl
    subst ha
    refine (zdw5 hs ho hat hT hv he).mw ?_
    simp only [ev] at he
    split at he
    ·cases he; rfl
    ·cases he; rfl
    ·split at he <;> first|(cases he; rfl)|cases he
    ·cases he
   ·cases hchk
  ·cases hchk
 case lenS =>
  split at hchk
  ·rename_i args ats ho
   split at hchk
   ·rename_i x t hx ht
    simp only [bS] at hchk
    obtain ⟨v,rfl,hv⟩:=(hV _ hchk.2).one
    obtain ⟨d,hd,hd2⟩:=zO7 hchk.1
    have hT:P.underlying t=some .string:=by cases d <;> simp [zat4] at hd2; exact hd
    have ha:args=#[x]:=by rw [← hx]
    have hat:ats[0]? = some t:=by
     have:ats=#[t]:=by rw [← ht]
     rw [this]; rfl
    subst ha
    cases v <;> simp only [ev] at he <;> try (cases he; done)
    cases he
    exact zdp6 hs ho hat hT hv
   ·cases hchk
  ·cases hchk
 case append sz by_ z =>
  split at hchk
  ·rename_i args ats ho
   split at hchk
   ·rename_i x y T U hx ht
    simp only [bS] at hchk
    obtain ⟨v,u,rfl,hv,hu⟩:=(hV _ hchk.2).two
    have ha:args=#[x,y]:=by rw [← hx]
    have hat:ats=#[T,U]:=by rw [← ht]
    subst ha; subst hat
    exact zcS3 hs ho hchk.1 hv hu hid he hobl
   ·cases hchk
  ·cases hchk
 case appc sz by_ =>
  split at hchk
  ·rename_i args ats ho
   split at hchk
   ·rename_i x y T U hx ht
    simp only [bS] at hchk
    obtain ⟨v,u,rfl,hv,hu⟩:=(hV _ hchk.2).two
    have ha:args=#[x,y]:=by rw [← hx]
    have hat:ats=#[T,U]:=by rw [← ht]
    subst ha; subst hat
    exact zdq0 hs ho hchk.1 hv hu hid he hobl
   ·cases hchk
  ·cases hchk
 case apl sz by_ =>
  split at hchk
  ·rename_i args ats ho
   split at hchk
   ·rename_i x y T U hx ht
    simp only [bS] at hchk
    obtain ⟨v,u,rfl,hv,hu⟩:=(hV _ hchk.2).two
    have ha:args=#[x,y]:=by rw [← hx]
    have hat:ats=#[T,U]:=by rw [← ht]
    subst ha; subst hat
    cases v <;> first|(cases he; done)|skip
    cases u <;> first|(cases he; done)|skip
    cases he
    obtain ⟨h1,rfl,h3,h4,h5⟩:=hobl
    exact zdx2 hs ho hchk.1 hv hu h3 h4 h5
   ·cases hchk
  ·cases hchk
 case clear sz z =>
  split at hchk
  ·rename_i args ats ho
   split at hchk
   ·rename_i x T hx ht
    simp only [bS] at hchk
    obtain ⟨v,rfl,hv⟩:=(hV _ hchk.2).one
    have ha:args=#[x]:=by rw [← hx]
    have hat:ats=#[T]:=by rw [← ht]
    subst ha; subst hat
    exact zdi4 hs ho hchk.1 hv he hobl
   ·cases hchk
  ·cases hchk
 case copy sz =>
  split at hchk
  ·rename_i args ats ho
   split at hchk
   ·rename_i x y T U hx ht
    simp only [bS] at hchk
    obtain ⟨v,u,rfl,hv,hu⟩:=(hV _ hchk.2).two
    have ha:args=#[x,y]:=by rw [← hx]
    have hat:ats=#[T,U]:=by rw [← ht]
    subst ha; subst hat
    exact zdq2 hs ho hchk.1 hv hu he hobl
   ·cases hchk
  ·cases hchk
 case mk sz by_ z =>
  split at hchk
  ·rename_i T x y ho
   simp only [bS] at hchk
   obtain ⟨v,u,rfl,hv,hu⟩:=(hV _ hchk.2).two
   cases v <;> simp only [ev] at he <;> try (cases he; done)
   cases u <;> simp only [ev] at he <;> try (cases he; done)
   cases he
   obtain ⟨h1,_,h3,h4,h5,h6⟩:=hobl
   exact y_mk hs ho hchk.1 hv hu hid h1 h3 h4 h5 h6
  ·cases hchk
 case conv k =>
  split at hchk
  ·rename_i T T2 x ho
   simp only [bS] at hchk
   obtain ⟨⟨h1,h2⟩,h3⟩:=hchk
   obtain ⟨v,rfl,hv⟩:=(hV _ h3).one
   obtain ⟨d,hd,_⟩:=zO7 h1
   obtain ⟨d2,hd2,hd3⟩:=zO7 h2
   have hT:P.underlying T2=some (.int k):=by cases d2 <;> simp [zcb3] at hd3; subst hd3; exact hd2
   cases v <;> simp only [ev] at he <;> try (cases he; done)
   cases he
   exact zdp9 hs ho ⟨⟨d,hd⟩,hT⟩ hv
  ·cases hchk
 case cvS =>
  split at hchk
  ·rename_i T T2 x ho
   simp only [bS] at hchk
   obtain ⟨⟨h1,h2⟩,h3⟩:=hchk
   obtain ⟨v,rfl,hv⟩:=(hV _ h3).one
   obtain ⟨e,he1,he2⟩:=zbr0 h1
   obtain ⟨d2,hd2,hd3⟩:=zO7 h2
   have hT2:P.underlying T2=some .string:=by cases d2 <;> simp [zat4] at hd3; exact hd2
   simp only [ev] at he
   split at he
   ·cases he
   ·rename_i hns
    simp only [gN] at he
    obtain ⟨es,h4,l,h5,he⟩:=he
    cases he
    exact zdx6 hs ho he1 he2 hT2 hv (by simpa using hns) h4 h5 hobl
  ·cases hchk
 case cvB =>
  split at hchk
  ·rename_i T T2 x ho
   simp only [bS] at hchk
   obtain ⟨⟨h1,h2⟩,h3⟩:=hchk
   obtain ⟨v,rfl,hv⟩:=(hV _ h3).one
   obtain ⟨e,he1,he2⟩:=zbr0 h2
   obtain ⟨d2,hd2,hd3⟩:=zO7 h1
   cases v <;> simp only [ev] at he <;> try (cases he; done)
   cases he
   exact zdx7 hs ho hd2 he1 he2 hv hobl
  ·cases hchk
 case min =>
  split at hchk
  ·rename_i args ats ho
   split at hchk
   ·rename_i x y hx
    obtain ⟨v,u,rfl,hv,hu⟩:=(hV _ hchk).two
    have ha:args=#[x,y]:=by rw [← hx]
    subst ha
    cases v <;> simp only [ev] at he <;> try (cases he; done)
    cases u <;> simp only [ev] at he <;> try (cases he; done)
    cases he
    have:_=_:=hobl
    subst this
    exact zdw8 hs ho hv hu
   ·cases hchk
  ·cases hchk
 case max =>
  split at hchk
  ·rename_i args ats ho
   split at hchk
   ·rename_i x y hx
    obtain ⟨v,u,rfl,hv,hu⟩:=(hV _ hchk).two
    have ha:args=#[x,y]:=by rw [← hx]
    subst ha
    cases v <;> simp only [ev] at he <;> try (cases he; done)
    cases u <;> simp only [ev] at he <;> try (cases he; done)
    cases he
    have:_=_:=hobl
    subst this
    exact zdw9 hs ho hv hu
   ·cases hchk
  ·cases hchk
 case nilck =>
  split at hchk
  ·rename_i x ho
   obtain ⟨v,rfl,hv⟩:=(hV _ hchk).one
   refine (zdh9 hs ho hv he).mw ?_
   simp only [ev] at he
   split at he
   ·split at he <;> first|(cases he; rfl)|cases he
   ·cases he; rfl
   ·cases he; rfl
   ·cases he
  ·cases hchk
 case mkf f =>
  split at hchk
  ·rename_i f' fst caps ho
   simp only [bS,dI] at hchk
   obtain ⟨⟨rfl,h2⟩,h3⟩:=hchk
   have hf:fst=#[]:=by simpa using h2
   subst hf
   have hv:=hV _ h3
   cases vals <;> (cases he; exact zdx4 hs ho hv.1 hv.2 (zbV2 hobl))
  ·cases hchk
 case eqNil=>cases vals <;> (simp [ev] at he)
 case call f=>cases vals <;> (simp [ev] at he)
 case callv=>cases vals <;> (simp [ev] at he)
 case callm f=>cases vals <;> (simp [ev] at he)
 case callvm=>cases vals <;> (simp [ev] at he)
end
structure Cx where
 P:Program
 G:zbz4
def zat5:Nat→Loc:=fun _=>.fresh
def PFn (C:Cx) (f:FuncId) (as:List A) (r:A):Prop :=
 ∀ (w:World) (W:Nat→Prop) (vs:List Value),zbb3 w W C.G→(∀ b,W b→b < w.heap.size)→vs.length=as.length →
  (∀ (i:Nat) (v:Value) (a:A),vs[i]? = some v→as[i]? = some a→RepV w W zat5 v a) →
  Calls C.P f vs.toArray w fun e w'=>∃ v,e=.returned v∧Keeps (fun _=>False) w w'∧Rep w' W zat5 v r
def look {α:Type}:List (Nat×α)→Nat→Option α
 | [],_=>none
 | q :: r,n=>if q.1=n then some q.2 else look r n
def rm {α:Type} (n:Nat):List (Nat×α)→List (Nat×α)
 | []=>[]
 | q :: r=>if q.1=n then rm n r else q :: rm n r
def zbV3 {α:Type}:List Nat→List (Nat×α)→List (Nat×α)
 | [],l=>l
 | n :: ns,l=>zbV3 ns (rm n l)
structure St where
 fr:List (Nat×A)
 mem:List (Nat×Row)
 nx:Nat
def St.slot (st:St) (t:Nat):A:=(look st.fr t).getD .any
def St.m (st:St) (x:Nat):MS:=if st.nx≤x then .fresh else match look st.mem x with
 | some r=>.row r
 | none=>.dead
def St.toS (st:St):S:=⟨st.slot,st.m⟩
def putM:List (Nat×MS)→List (Nat×Row)→List (Nat×Row)
 | [],m=>m
 | (x,.row r) :: q,m=>putM q ((x,r) :: rm x m)
 | (x,_) :: q,m=>putM q (rm x m)
def nxt (nx:Nat):List (Nat×MS)→Nat
 | []=>nx
 | q :: r=>nxt (if q.1=nx then nx+1 else nx) r
def putF (d:Option Nat) (v:A) (fr:List (Nat×A)):List (Nat×A):=match d with
 | none=>fr
 | some d=>(d,v) :: rm d fr
def St.app (st:St) (d:Option Nat) (v:A) (mw:List (Nat×MS)):St:=⟨putF d v st.fr,putM mw st.mem,nxt st.nx mw⟩
def frz1 (m:Nat→MS):A→A
 | .own x lo n=>match m x with
  | .row r=>.sl ((r.es.drop lo).take n)
  | _=>.any
 | a=>a
def zn2:List A→Bool
 | []=>true
 | a :: as=>a.pure1&&zn2 as
def frz (m:Nat→MS):A→A
 | .agg cs=>if zn2 cs then .agg cs else .agg (cs.map (frz1 m))
 | a=>frz1 m a
def zat6 (m:Nat→MS):A→Prop
 | .own x lo n=>match m x with
  | .row r=>lo+n≤r.es.length∧zan2 ((r.es.drop lo).take n)
  | _=>False
 | a=>a.pure1=true
def zaC4 (m:Nat→MS):A→Prop
 | .agg cs=>if zn2 cs then True else ∀ c ∈ cs,zat6 m c
 | .clo _ cs=>cs=[]
 | a=>zat6 m a
def zO8 (m:Nat→MS):List A→List A
 | []=>[]
 | a :: as=>frz m a :: zO8 m as
def zE9 (m:Nat→MS):List A→Prop
 | []=>True
 | a :: as=>zaC4 m a∧zE9 m as
def zO3:A→List Nat
 | .own x _ _=>[x]
 | _=>[]
def zat7:A→List Nat
 | .agg cs=>if zn2 cs then [] else cs.flatMap zO3
 | a=>zO3 a
def zF0:List A→List Nat
 | []=>[]
 | a :: as=>zat7 a++zF0 as
def A.scal1:A→Bool
 | .bool _|.int _ _|.str _=>true
 | _=>false
def zu6:List A→Bool
 | []=>true
 | a :: as=>a.scal1&&zu6 as
def A.scal2:A→Bool
 | .agg cs=>zu6 cs
 | a=>a.scal1
def zbH3:List A→Bool
 | []=>true
 | a :: as=>a.scal2&&zbH3 as
def A.scal:A→Bool
 | .tup vs=>zbH3 vs
 | a=>a.scal2
def zQ1 (m:Nat→MS):List Nat→List (Nat×MS)
 | []=>[]
 | x :: xs=>match m x with
  | .row r=>(x,.row ⟨true,r.sz,r.z,r.es⟩) :: zQ1 m xs
  | _=>zQ1 m xs
def zJ7 (m:Nat→MS) (vals:List A) (r:A):List (Nat×MS):=if r.scal then [] else zQ1 m (zF0 vals)
def zO4 (st:St):Option (Nat×Bool)→Option Bool
 | none=>some true
 | some q=>match st.slot q.1 with
  | .bool b=>some (if q.2 then b else !b)
  | .cnd g (.bool b)=>some (g&&if q.2 then b else !b)
  | _=>none
def zQ2 (g:Option (Nat×Bool)) (b:Bool) (v:A):A:=match g with
 | none=>v
 | some _=>.cnd b v
def zs5 (C:Cx) (st:St):List PX→List A
 | []=>[]
 | p :: ps=>(xv C.G st.slot p).nc :: zs5 C st ps
def zar2 (C:Cx) (st:St):List PX→Prop
 | []=>True
 | p :: ps=>(xv C.G st.slot p).gd=true∧zar2 C st ps
def A.isVV:A→Bool
 | .any|.tup _|.cnd _ _=>false
 | _=>true
def rho (l:List (Nat×Nat)) (x:Nat):Nat:=(look l x).getD x
def ren0 (l:List (Nat×Nat)):A→A
 | .own x lo n=>.own (rho l x) lo n
 | .ptr x i j=>.ptr (rho l x) i j
 | a=>a
def ren1 (l:List (Nat×Nat)):A→A
 | .clo f cs=>.clo f (cs.map (ren0 l))
 | a=>ren0 l a
def ren (l:List (Nat×Nat)):A→A
 | .agg cs=>if zn2 cs then .agg cs else .agg (cs.map (ren1 l))
 | a=>ren1 l a
def renR (l:List (Nat×Nat)):A→A
 | .tup vs=>.tup (vs.map (ren l))
 | a=>ren l a
def zcj1 (nx:Nat):A→Prop
 | .own x _ _=>x < nx
 | .ptr x _ _=>x < nx
 | _=>True
def zbk3 (nx:Nat):A→Prop
 | .clo _ cs=>∀ c ∈ cs,zcj1 nx c
 | a=>zcj1 nx a
def pureEs:List (List A)→Bool
 | []=>true
 | c :: cs=>zn2 c&&pureEs cs
def zaM5 (l:List (Nat×Nat)) (es:List (List A)):List (List A):=if pureEs es then es else es.map (·.map (ren1 l))
def idEs (nx:Nat) (es:List (List A)):Prop:=if pureEs es then True else ∀ c ∈ es,∀ a ∈ c,zbk3 nx a
def zaI3:List Nat→Bool
 | []=>true
 | x :: xs=>!xs.contains x&&zaI3 xs
def MFn (C:Cx) (f:FuncId) (as:List A) (ms:List (Nat×Row)) (k:Nat) (r:A) (ms':List (Nat×Row)) (k':Nat):Prop :=
 ∀ (w:World) (W:Nat→Prop) (μ:Nat→Loc) (vs:List Value),zbb3 w W C.G→(∀ b,W b→b < w.heap.size)→vs.length=as.length →
  (∀ (i:Nat) (v:Value) (a:A),vs[i]? = some v→as[i]? = some a→RepV w W μ v a)→zaI0 w W μ (⟨[],ms,k⟩:St).m →
  (∀ x y b b',μ x=.at_ b→μ y=.at_ b'→b.b=b'.b→x=y) →
  Calls C.P f vs.toArray w fun e w'=>∃ v W' μ',e=.returned v∧Step (⟨[],ms,k⟩:St).m (⟨[],ms',k'⟩:St).m w w' W W' μ μ'∧Rep w' W' μ' v r
def A.hands:A→Bool
 | .own _ _ _|.ptr _ _ _=>true
 | .clo _ cs=>!cs.isEmpty
 | .agg cs=>!zn2 cs
 | _=>false
def zcB7 (nx:Nat):List A→Prop
 | []=>True
 | c :: cs=>zbk3 nx c∧zcB7 nx cs
def zdo1 (nx:Nat):A→Prop
 | .agg cs=>zcB7 nx cs
 | a=>zbk3 nx a
def argM (m:Nat→MS) (l:List (Nat×Nat)) (k:Nat) (v a:A):Prop :=
 if a.hands then v=ren l a∧zdo1 k a else zaC4 m v∧frz m v=a
def zbr1 (m:Nat→MS) (l:List (Nat×Nat)) (k:Nat):List A→List A→Prop
 | v :: vs,a :: as=>argM m l k v a∧zbr1 m l k vs as
 | [],[]=>True
 | _,_=>False
def fzM:List A→List A→List Nat
 | v :: vs,a :: as=>(if a.hands then [] else zat7 v)++fzM vs as
 | _,_=>[]
def zbV4 (m:Nat→MS) (l:List (Nat×Nat)) (k:Nat) (fz:List Nat):List (Nat×Row)→Prop
 | []=>True
 | q :: r=>(match m (rho l q.1) with
   | .row r'=>r'.ro=false∧r'.sz=q.2.sz∧r'.es=zaM5 l q.2.es
   | _=>False)∧q.2.ro=false∧q.1 < k∧idEs k q.2.es∧fz.contains (rho l q.1)=false∧zbV4 m l k fz r
def zbz7 {α:Type} (ms:List (Nat×α)):Nat→Bool
 | 0=>true
 | n+1=>(look ms n).isSome&&zbz7 ms n
def okM (m:Nat→MS) (nx:Nat) (l:List (Nat×Nat)) (vals as:List A) (ms:List (Nat×Row)) (k k':Nat):Prop :=
 zbr1 m l k vals as∧zbV4 m l k (fzM vals as) ms∧zaI3 (ms.map fun q=>rho l q.1)=true∧zaI3 (ms.map (·.1))=true∧zbz7 ms k=true∧Nat.ble k k'=true∧(∀ q ∈ ms,rho l q.1 < nx)∧(∀ q ∈ l,q.1 < k)
def newL (k nx:Nat):Nat→List (Nat×Nat)
 | 0=>[]
 | n+1=>(k,nx) :: newL (k+1) (nx+1) n
def entM (l:List (Nat×Nat)):Option Row→MS
 | some r=>.row ⟨r.ro,r.sz,r.z,zaM5 l r.es⟩
 | none=>.dead
def zac0 (l:List (Nat×Nat)) (ms':List (Nat×Row)):List Nat→List (Nat×MS)
 | []=>[]
 | x :: xs=>(rho l x,entM l (look ms' x)) :: zac0 l ms' xs
def mwM (m:Nat→MS) (l:List (Nat×Nat)) (vals as:List A) (ms ms':List (Nat×Row)) (k k':Nat):List (Nat×MS) :=
 zQ1 m (fzM vals as)++zac0 l ms' (ms.map (·.1)++(List.range (k' - k)).map (k+·))
def MS.like:MS→MS→Prop
 | .row r,.row r'=>r.ro=r'.ro∧r.sz=r'.sz∧r.es=r'.es
 | .dead,.dead=>True
 | _,_=>False
def zbr2 (m:Nat→MS):List (Nat×MS)→Prop
 | []=>True
 | q :: r=>(m q.1).like q.2∧zbr2 m r
def zaM6 (C:Cx) (m:Nat→MS) (nx:Nat) (f:FuncId) (vals:List A) (og:Option (Nat×Bool)) (g:Bool) (ob:Prop) (F:Nat→Prop) (K:A→List (Nat×MS)→Prop):Prop :=
 ∃ l as ms k r ms' k',(g=true→ob∧MFn C f as ms k r ms' k'∧okM m nx l vals as ms k k'∧F (k' - k))∧(g=false→k=k'∧zbr2 m (mwM m (l++newL k nx (k' - k)) vals as ms ms' k k')) ∧
  (og=none∨(renR (l++newL k nx (k' - k)) r).isVV=true)∧(∀ g c,r≠.cnd g c)∧K (zQ2 og g (renR (l++newL k nx (k' - k)) r)) (mwM m (l++newL k nx (k' - k)) vals as ms ms' k k')
def PO.lax:PO→Bool
 | .len|.bin _|.not=>true
 | _=>false
theorem zdq4 {id id':Nat} {m:Nat→MS} {po:PO} {vals:List A} (h:po.lax=true):ev id m po vals=ev id' m po vals:=by
 cases po <;> first|(cases h; done)|rfl|(rcases vals with _|⟨x,_|⟨y,_|⟨z,xs⟩⟩⟩ <;> first|rfl|(cases x <;> first|rfl|(cases y <;> rfl)))
def aop (C:Cx) (p:POp) (st:St) (K:St→Prop):Prop :=
 match zO4 st p.g with
 | none=>False
 | some g =>
  match p.po with
  | .pick=>match p.xs with
   | [c,x,y]=>match (xv C.G st.slot c).nc,(xv C.G st.slot x).nc,(xv C.G st.slot y).nc with
    | .bool b,.bool u,.bool v=>(g=true→(xv C.G st.slot c).gd=true∧(b=true→(xv C.G st.slot x).gd=true)∧(b=false→(xv C.G st.slot y).gd=true))∧K (st.app p.dst (zQ2 p.g g (.bool (cond b u v))) [])
    | _,_,_=>False
   | _=>False
  | .call f=>∃ r,(g=true→zar2 C st p.xs∧zE9 st.m (zs5 C st p.xs)∧PFn C f (zO8 st.m (zs5 C st p.xs)) r) ∧
    (p.g=none∨zJ7 st.m (zs5 C st p.xs) r=[]∧r.isVV=true)∧K (st.app p.dst (zQ2 p.g g r) (zJ7 st.m (zs5 C st p.xs) r))
  | .callv=>match zs5 C st p.xs with
   | .clo f caps :: vals=>∃ r,(g=true→zar2 C st p.xs∧zY1 C.P f=true∧zE9 st.m (vals++caps)∧PFn C f (zO8 st.m (vals++caps)) r) ∧
    (p.g=none∨zJ7 st.m (vals++caps) r=[]∧r.isVV=true)∧K (st.app p.dst (zQ2 p.g g r) (zJ7 st.m (vals++caps) r))
   | _=>False
  | .callm f=>zaM6 C st.m st.nx f (zs5 C st p.xs) p.g g (zar2 C st p.xs) (fun _=>True) fun v mw=>K (st.app p.dst v mw)
  | .callvm=>match zs5 C st p.xs with
   | .clo f caps :: vals=>zaM6 C st.m st.nx f (vals++caps) p.g g (zar2 C st p.xs∧zY1 C.P f=true) (fun _=>True) fun v mw=>K (st.app p.dst v mw)
   | _=>False
  | po=>match ev st.nx st.m po (zs5 C st p.xs) with
   | some ef=>(g=true→zar2 C st p.xs∧ef.obl)∧(p.g=none∨ef.mw=[]∧ef.v.isVV=true)∧K (st.app p.dst (zQ2 p.g g ef.v) ef.mw)
   | none=>g=false∧po.lax=true∧K (st.app p.dst (zQ2 p.g g (.bool false)) [])
def zM9 (fr:Nat→A):Option (Nat×Bool)→Option Bool
 | none=>some true
 | some q=>match fr q.1 with
  | .bool b=>some (if q.2 then b else !b)
  | .cnd g (.bool b)=>some (g&&if q.2 then b else !b)
  | _=>none
def zJ3 (C:Cx) (fr:Nat→A):List PX→List A
 | []=>[]
 | p :: ps=>(xv C.G fr p).nc :: zJ3 C fr ps
def gdsF (C:Cx) (fr:Nat→A):List PX→Prop
 | []=>True
 | p :: ps=>(xv C.G fr p).gd=true∧gdsF C fr ps
def aopS (C:Cx) (p:POp) (s:S) (id:Nat) (K:A→List (Nat×MS)→Prop):Prop :=
 match zM9 s.fr p.g with
 | none=>False
 | some g =>
  match p.po with
  | .pick=>match p.xs with
   | [c,x,y]=>match (xv C.G s.fr c).nc,(xv C.G s.fr x).nc,(xv C.G s.fr y).nc with
    | .bool b,.bool u,.bool v=>(g=true→(xv C.G s.fr c).gd=true∧(b=true→(xv C.G s.fr x).gd=true)∧(b=false→(xv C.G s.fr y).gd=true))∧K (zQ2 p.g g (.bool (cond b u v))) []
    | _,_,_=>False
   | _=>False
  | .call f=>∃ r,(g=true→gdsF C s.fr p.xs∧zE9 s.mem (zJ3 C s.fr p.xs)∧PFn C f (zO8 s.mem (zJ3 C s.fr p.xs)) r) ∧
    (p.g=none∨zJ7 s.mem (zJ3 C s.fr p.xs) r=[]∧r.isVV=true)∧K (zQ2 p.g g r) (zJ7 s.mem (zJ3 C s.fr p.xs) r)
  | .callv=>match zJ3 C s.fr p.xs with
   | .clo f caps :: vals=>∃ r,(g=true→gdsF C s.fr p.xs∧zY1 C.P f=true∧zE9 s.mem (vals++caps)∧PFn C f (zO8 s.mem (vals++caps)) r) ∧
    (p.g=none∨zJ7 s.mem (vals++caps) r=[]∧r.isVV=true)∧K (zQ2 p.g g r) (zJ7 s.mem (vals++caps) r)
   | _=>False
  | .callm f=>zaM6 C s.mem id f (zJ3 C s.fr p.xs) p.g g (gdsF C s.fr p.xs) (fun n=>∀ x,id≤x→x < id+n→s.mem x=.fresh) K
  | .callvm=>match zJ3 C s.fr p.xs with
   | .clo f caps :: vals=>zaM6 C s.mem id f (vals++caps) p.g g (gdsF C s.fr p.xs∧zY1 C.P f=true) (fun n=>∀ x,id≤x→x < id+n→s.mem x=.fresh) K
   | _=>False
  | po=>match ev id s.mem po (zJ3 C s.fr p.xs) with
   | some ef=>(g=true→gdsF C s.fr p.xs∧ef.obl)∧(p.g=none∨ef.mw=[]∧ef.v.isVV=true)∧K (zQ2 p.g g ef.v) ef.mw
   | none=>g=false∧po.lax=true∧K (zQ2 p.g g (.bool false)) []
def nilQ (K:Bool→Prop):List A→Prop
 | [.sl es]=>∀ b:Bool,(b=true→es=[])→K b
 | [.full es]=>∀ b:Bool,(b=true→es=[])→K b
 | _=>False
def PO.isNilQ:PO→Bool
 | .eqNil=>true
 | _=>false
def arun (C:Cx):List POp→St→(St→Prop)→Prop
 | [],st,K=>K st
 | p :: ps,st,K=>if p.po.isNilQ=true then p.g=none∧zar2 C st p.xs∧nilQ (fun b=>arun C ps (st.app p.dst (.bool b) []) K) (zs5 C st p.xs) else aop C p st fun st'=>arun C ps st' K
theorem zaB0 {α:Type} (n x:Nat):∀ l:List (Nat×α),look (rm n l) x=if x=n then none else look l x
 | []=>by simp [rm,look]
 | q :: r=>by
  unfold rm
  split
  ·rename_i h
   rw [zaB0 n x r]
   by_cases hx:x=n
   ·simp [hx]
   ·rw [bT hx,bT hx]
    simp only [look]
    rw [bT (by omega)]
  ·rename_i h
   simp only [look]
   split
   ·rename_i h2
    rw [bT (by omega)]
   ·exact zaB0 n x r
theorem zcj2 (st:St) (d:Option Nat) (v:A) (mw:List (Nat×MS)):(st.app d v mw).slot=setF st.slot d v:=by
 funext t
 simp only [St.slot,St.app,setF,putF]
 cases d with
 | none=>simp
 | some d =>
  simp only [look,dC]
  split
  ·rfl
  ·rename_i h
   rw [zaB0,bT (by omega)]
def mwOk:Nat→List (Nat×MS)→Prop
 | _,[]=>True
 | nx,q :: r=>q.1≤nx∧q.2≠.fresh∧mwOk (if q.1=nx then nx+1 else nx) r
theorem zbV5 {m:Nat→MS} (x:Nat):∀ {mw:List (Nat×MS)} (m':Nat→MS),zbr2 m mw→setM m' mw x=m' x∨(m x).like (setM m' mw x)
 | [],_,_=>.inl rfl
 | q :: r,m',h=>by
  simp only [setM]
  rcases zbV5 x (fun x=>if x=q.1 then q.2 else m' x) h.2 with e|e
  ·rw [e]
   by_cases hx:x=q.1
   ·subst hx; rw [bW rfl]; exact .inr h.1
   ·rw [bT hx]; exact .inl rfl
  ·exact .inr e
theorem zan1.like {w:World} {W:Nat→Prop} {μ:Nat→Loc} {x:Nat} {p q:MS} (h:zan1 w W μ x p) (hl:p.like q):zan1 w W μ x q:=by
 cases p <;> cases q <;> first|exact hl.elim|exact h|skip
 rename_i r r'
 obtain ⟨ro,sz,z,es⟩:=r
 obtain ⟨ro',sz',z',es'⟩:=r'
 obtain ⟨rfl,rfl,rfl⟩:=hl
 exact h
theorem MS.like_ne {p q:MS} (h:p.like q):p≠.fresh∧q≠.fresh:=by
 cases p <;> cases q <;> first|exact h.elim|exact ⟨(nomatch ·),(nomatch ·)⟩
theorem zcu1:∀ (mw:List (Nat×MS)) (fr:List (Nat×A)) (mem:List (Nat×Row)) (nx:Nat),mwOk nx mw→∀ f2,(⟨f2,putM mw mem,nxt nx mw⟩:St).m=setM (⟨fr,mem,nx⟩:St).m mw
 | [],fr,mem,nx,_,f2=>by simp [putM,nxt,setM,St.m]; rfl
 | q :: r,fr,mem,nx,h,f2=>by
  obtain ⟨h1,h2,h3⟩:=h
  have e:(fun x=>if x=q.1 then q.2 else (⟨fr,mem,nx⟩:St).m x)=(⟨fr,(match q with|(x,.row r)=>(x,r) :: rm x mem|(x,_)=>rm x mem),if q.1=nx then nx+1 else nx⟩:St).m:=by
   funext x
   obtain ⟨y,q2⟩:=q
   simp only at h1 h2
   by_cases hx:x=y
   ·subst hx
    rw [bW rfl]
    cases q2 with
    | fresh=>exact absurd rfl h2
    | dead=>simp only [St.m,zaB0,cB]; rw [bT (by split <;> omega)]
    | row r=>simp only [St.m,look,cB]; rw [bT (by split <;> omega)]
   ·rw [bT hx]
    cases q2 with
    | fresh=>exact absurd rfl h2
    | dead =>
     simp only [St.m,zaB0,hx,cA]
     split
     ·rename_i hh; rw [bW (by split <;> omega)]
     ·rename_i hh; rw [bT (by split <;> omega)]
    | row r =>
     simp only [St.m,look,zaB0,hx,cA,show ¬ y=x by omega]
     split
     ·rename_i hh; rw [bW (by split <;> omega)]
     ·rename_i hh; rw [bT (by split <;> omega)]
  simp only [setM,nxt]
  rw [e]
  obtain ⟨y,q2⟩:=q
  cases q2 with
  | fresh=>exact absurd rfl h2
  | dead=>exact zcu1 r fr _ _ h3 f2
  | row r'=>exact zcu1 r fr _ _ h3 f2
end Ab
end Go.Proofs.YtfkjffmjkbkmhaaGreatDoor
