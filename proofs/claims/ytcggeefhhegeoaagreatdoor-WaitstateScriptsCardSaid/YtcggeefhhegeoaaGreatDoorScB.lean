import Derived.Test.YtcggeefhhegeoaaGreatDoorScA
namespace Go.Proofs.YtcggeefhhegeoaaGreatDoor
namespace Ab
set_option linter.unusedVariables false
set_option linter.unusedSimpArgs false
theorem zct7 (l:List Hold) (h:l.length≤1000):za8 l l=some true:=by
 unfold za8
 rw [if_neg (by simp),zae7 l.length (fun i hi=>by
  unfold zz7
  rw [if_pos (by simpa using hi),gdp (by omega),gdp (by omega),if_neg (by simp),zf6 (by omega) (by omega)]) (by unfold zz7; simp)]
 rfl
theorem zbE0 (l:List Wait) (h:l.length≤1000):za6 l l=some true:=by
 unfold za6
 rw [if_neg (by simp),zae7 l.length (fun i hi=>by
  unfold zz6
  rw [if_pos (by simpa using hi),gdp (by omega),gdp (by omega),if_neg (by simp),zf6 (by omega) (by omega)]) (by unfold zz6; simp)]
 rfl
theorem zct8 (l:List Wait) (h:l.length≤1000):za1 l l=some true:=by
 unfold za1
 rw [if_neg (by simp),zae7 l.length (fun i hi=>by
  unfold zp8
  rw [if_pos (by simpa using hi),gdp (by omega),gdp (by omega),if_neg (by unfold zO3; simp),zf6 (by omega) (by omega)]) (by unfold zp8; simp)]
 rfl
theorem zbT4 {q:Queue} (h:OkQ q):zj1 q q=some true:=by
 have l1:=h.lh; have l2:=h.lc; have l3:=h.lw
 unfold zj1 zf2
 simp [zct7 q.holds (by omega),zbE0 q.converts (by omega),zbE0 q.waits (by omega),zct8 q.waits (by omega)]
theorem zcC5 {s:WaitState} (ok:OkS s):zs6 s s=some true:=by
 have lq:=ok.lq; have ln:=ok.ln
 unfold zs6 zb1 za3
 rw [if_neg (by simp),zae7 s.queues.length (fun i hi=>by
  unfold zk8
  rw [if_pos (by simpa using hi),gdp (by omega),gdp (by omega)]
  simp only [Int.toNat_natCast]
  rw [zbT4 (ok.q _ (zj8 hi)),Option.bind_some,if_neg (by simp),zf6 (by omega) (by omega)]) (by unfold zk8; simp)]
 rw [if_neg (by simp),zae7 s.needs.length (fun i hi=>by
  unfold zj0
  have hf:=(ok.n _ (zj8 (z:=Need.zero) hi)).2.2.2
  unfold fitE at hf
  simp only [Bool.and_eq_true,decide_eq_true_eq] at hf
  rw [if_pos (by simpa using hi),gdp (by omega),gdp (by omega)]
  simp only [Int.toNat_natCast]
  have:ze7 (s.needs.getD i Need.zero) (s.needs.getD i Need.zero)=some true:=by
   unfold ze7 ze6
   rw [if_pos (by simp),zaL5 _ _ (Nat.lt_succ_self _) hf.2,Option.bind_some]
   simp
  rw [this,Option.bind_some,if_neg (by simp),zf6 (by omega) (by omega)]) (by unfold zj0; simp)]
 rfl
theorem zbT5 (l:List Need):zaA2 l=true ↔ (∀ n ∈ l,zb6 n.proc=true∧vE n.expr=true∧0≤n.gen∧n.gen≤1073741824)∧l.Pairwise fun a b=>ltP a.proc b.proc:=by
 have gg:∀ k,(hk:k < l.length)→l.getD k Need.zero=l[k]:=fun k hk=>by rw [List.getD_eq_getElem?_getD,List.getElem?_eq_getElem hk]; rfl
 have hlt:∀ p q:Proc,cmpP p q < 0 ↔ ltP p q:=fun p q=>by
  have:=zaE2 p q
  constructor
  ·intro h; by_cases c:ltP p q
   ·exact c
   ·have:=this.2 c; omega
  ·intro h
   have:¬ 0≤cmpP p q:=fun c=>this.1 c h
   omega
 unfold zaA2
 rw [List.all_eq_true]
 constructor
 ·intro h
  have hi:∀ i,i < l.length→zaT7 l i (l.getD i Need.zero)=true:=fun i hi=>h i (List.mem_range.2 hi)
  refine ⟨fun n hn=>?_,?_⟩
  ·obtain ⟨i,k,e⟩:=List.getElem_of_mem hn
   have:=hi i k
   rw [gg i k,e] at this
   unfold zaT7 at this
   simp only [Bool.and_eq_true,decide_eq_true_eq] at this
   exact ⟨this.1.1.1.1,this.1.1.1.2,this.1.1.2,this.1.2⟩
  ·have step:∀ i,(k:i+1 < l.length)→ltP l[i].proc l[i+1].proc:=fun i k=>by
    have:=hi (i+1) k
    unfold zaT7 at this
    simp only [Bool.and_eq_true,decide_eq_true_eq,Bool.or_eq_true,Nat.add_sub_cancel] at this
    rw [gg (i+1) k,gg i (by omega)] at this
    rcases this.2 with c|c
    ·omega
    ·exact (hlt _ _).1 c
   have far:∀ d i,(k:i+d+1 < l.length)→ltP l[i].proc l[i+d+1].proc:=by
    intro d
    induction d with
    | zero=>intro i k; exact step i k
    | succ d ih=>intro i k; exact zat3 (ih i (by omega)) (step (i+d+1) k)
   rw [List.pairwise_iff_getElem]
   intro i j h1 h2 h3
   have:=far (j - i - 1) i (by omega)
   have e:i+(j - i - 1)+1=j:=by omega
   simp only [e] at this
   exact this
 ·rintro ⟨h1,h2⟩ i hi
  rw [List.mem_range] at hi
  obtain ⟨a,b,c,d⟩:=h1 _ (zj8 (z:=Need.zero) hi)
  unfold zaT7
  have hord:(decide (i=0)||decide (cmpP (l.getD (i - 1) Need.zero).proc (l.getD i Need.zero).proc < 0))=true:=by
   by_cases c0:i=0
   ·simp [c0]
   ·have:=List.pairwise_iff_getElem.1 h2 (i - 1) i (by omega) hi (by omega)
    rw [gg _ (by omega),gg _ hi,decide_eq_true ((hlt _ _).2 this),Bool.or_true]
  rw [hord,a,b,decide_eq_true c,decide_eq_true d]
  rfl
theorem zcC6 {s t:WaitState} (h:zQ2 s=true) (hq:t.queues.Sublist s.queues) (hn:t.needs.Sublist s.needs):zQ2 t=true:=by
 unfold zQ2 at h ⊢
 simp only [Bool.and_eq_true,decide_eq_true_eq] at h ⊢
 obtain ⟨⟨⟨h1,h2⟩,h3⟩,h4⟩:=h
 obtain ⟨p1,p2,p3⟩:=(zal0 _).1 h1
 obtain ⟨n1,n2⟩:=(zbT5 _).1 h3
 have lq:=hq.length_le; have ln:=hn.length_le
 have p2':∀ q ∈ t.queues,zk0 q=true:=fun q hm=>p2 q (hq.subset hm)
 refine ⟨⟨⟨(zal0 _).2 ⟨by omega,p2',p3.sublist hq⟩,by omega⟩,(zbT5 _).2 ⟨fun n hm=>n1 n (hn.subset hm),n2.sublist hn⟩⟩,?_⟩
 refine Nat.le_trans (List.Nodup.length_le_of_subset (zaT3 (zaT2 _)) (l₂:=zaL3 s) fun p hp=>?_) h4
 unfold zaL3 at hp ⊢
 rw [zaA1,List.mem_append] at hp
 rw [zaA1,List.mem_append]
 rcases hp with hp|hp
 ·obtain ⟨q,hm,hh⟩:=(zas3 p2').1 hp
  exact .inl ((zas3 p2).2 ⟨q,hq.subset hm,hh⟩)
 ·exact .inr ((hn.map _).subset hp)
theorem zct9 {s:WaitState} (h:zQ2 s=true) (by_:List Int) (hb:by_.length≤40):∃ t,zl1 s by_=some t∧zQ2 t=true:=by
 have ok:=(zbg4 h).1
 have lq:=ok.lq; have ln:=ok.ln
 unfold zl1
 obtain ⟨x,h1,h2,h3,h4⟩:=zr8 (body:=zaf9 s) (fun g=>∃ k:Nat,g.1=k∧k≤s.queues.length∧TapeOk g.2.1∧g.2.2.queues.Sublist (s.queues.take k)∧g.2.2.needs=[]) (fun g=>s.queues.length - g.1.toNat)
  (fun x=>TapeOk x.1∧x.2.queues.Sublist s.queues∧x.2.needs=[]) (fun g ⟨k,hg,hk,ht,hs,hn⟩=>by
   obtain ⟨g1,g2,g3⟩:=g
   simp only at hg ht hs hn
   subst hg
   have hl:=hs.length_le
   rw [List.length_take] at hl
   unfold zaf9
   simp only [Int.toNat_natCast]
   by_cases c:k < s.queues.length
   ·obtain ⟨v,u,e1,e2⟩:=zbz8 (m:=5) (by decide) (by decide) ht
    have ts:=zK5 Queue.zero c
    rw [if_pos (by simpa using c),e1,Option.bind_some,zc4 k (by omega)]
    by_cases d:v=1
    ·rw [if_neg (by simpa using d)]
     exact .inl ⟨_,rfl,⟨k+1,rfl,c,e2.ok,by rw [ts]; exact hs.trans (List.sublist_append_left _ _),hn⟩,by simp only [Int.toNat_natCast]; omega⟩
    ·rw [if_pos (by simpa using d),gdp (by omega),gdp (by omega)]
     exact .inl ⟨_,rfl,⟨k+1,rfl,c,e2.ok,by rw [ts]; exact hs.append (List.Sublist.refl _),hn⟩,by simp only [Int.toNat_natCast]; omega⟩
   ·rw [if_neg (by simpa using c)]
    rw [List.take_of_length_le (by omega)] at hs
    exact .inr ⟨_,rfl,ht,hs,hn⟩) (0,{ Tape.zero with l:=by_ },⟨[],[]⟩) ⟨0,rfl,by omega,⟨by simp only; omega,by simp [Tape.zero]⟩,.slnil,rfl⟩
 rw [h1,Option.bind_some]
 unfold zaf8
 obtain ⟨y,k1,k2,k3⟩:=zr8 (body:=zaf7 s) (fun g=>∃ k:Nat,g.1=k∧k≤s.needs.length∧TapeOk g.2.1∧g.2.2.needs.Sublist (s.needs.take k)∧g.2.2.queues=x.2.queues) (fun g=>s.needs.length - g.1.toNat)
  (fun y=>y.needs.Sublist s.needs∧y.queues=x.2.queues) (fun g ⟨k,hg,hk,ht,hs,hn⟩=>by
   obtain ⟨g1,g2,g3⟩:=g
   simp only at hg ht hs hn
   subst hg
   have hl:=hs.length_le
   rw [List.length_take] at hl
   unfold zaf7
   simp only [Int.toNat_natCast]
   by_cases c:k < s.needs.length
   ·obtain ⟨v,u,e1,e2⟩:=zbz8 (m:=5) (by decide) (by decide) ht
    have ts:=zK5 Need.zero c
    rw [if_pos (by simpa using c),e1,Option.bind_some,zc4 k (by omega)]
    by_cases d:v=1
    ·rw [if_neg (by simpa using d)]
     exact .inl ⟨_,rfl,⟨k+1,rfl,c,e2.ok,by rw [ts]; exact hs.trans (List.sublist_append_left _ _),hn⟩,by simp only [Int.toNat_natCast]; omega⟩
    ·rw [if_pos (by simpa using d),gdp (by omega),gdp (by omega)]
     exact .inl ⟨_,rfl,⟨k+1,rfl,c,e2.ok,by rw [ts]; exact hs.append (List.Sublist.refl _),hn⟩,by simp only [Int.toNat_natCast]; omega⟩
   ·rw [if_neg (by simpa using c)]
    rw [List.take_of_length_le (by omega)] at hs
    exact .inr ⟨_,rfl,hs,hn⟩) (0,x.1,x.2) ⟨0,rfl,by omega,h2,by rw [h4]; exact .slnil,rfl⟩
 rw [k1,Option.bind_some]
 exact ⟨y,rfl,zcC6 h (by rw [k3]; exact h3) k2⟩
theorem zbb4 (l by_:List Int):zB4 l by_=some true:=by
 unfold zB4
 by_cases c:((!(zav2 l))||decide (40 < (by_.length:Int)))=true
 ·rw [if_pos c,zcH6]; rfl
 ·rw [if_neg c]
  simp only [Bool.or_eq_true,Bool.not_eq_true',decide_eq_true_eq,not_or,Bool.not_eq_false] at c
  obtain ⟨c1,c2⟩:=c
  have hl:l.length≤300:=by unfold zav2 at c1; simp at c1; omega
  obtain ⟨s0,h1,h2⟩:=zcP8 hl
  obtain ⟨s,h3,h4⟩:=zct9 h2 by_ (by omega)
  have ok:=(zbg4 h4).1
  have lq:=ok.lq; have ln:=ok.ln
  have hlen:=zch8 ok
  have hD:zu7 (encS s)=some (s,0):=by rw [zbD5 ok (by omega),h4]; rfl
  rw [h1,Option.bind_some,h3,Option.bind_some,zaG5,h4,Option.bind_some]
  simp only [if_true]
  rw [hD,Option.bind_some]
  simp only [decide_true,Bool.not_true,Bool.or_self,Bool.not_false,if_true]
  rw [zcC5 ok,Option.bind_some,if_neg (by simp)]
  have hpt:zak9 s.queues=true:=by unfold zQ2 at h4; simp only [Bool.and_eq_true] at h4; exact h4.1.1.1
  have hpl:(zaL3 s).length≤8:=by unfold zQ2 at h4; simp only [Bool.and_eq_true,decide_eq_true_eq] at h4; exact h4.2
  rw [zbg0 s hpt (by omega),Option.bind_some]
  rw [zae7 (zaL3 s).length (fun i hi=>by
   unfold zI0
   rw [if_pos (by simpa using hi),gdp (by omega)]
   simp only [Int.toNat_natCast]
   obtain ⟨bs,g1,g2,g3⟩:=zci4 h4 ((zaL3 s).getD i Proc.zero)
   rw [g1,Option.bind_some,gdp (by omega),g2,Option.bind_some,zbT3 bs (by omega),Option.bind_some,if_neg (by simp),zf6 (by omega) (by omega)]) (by unfold zI0; simp),Option.bind_some]
  show zH9 s (s,0) ()=some true
  unfold zH9
  rw [zcH6,Option.bind_some,if_pos rfl]
  simp only
  rw [zbW1 _ _ (by omega) (fun q hq=>by have:=ok.q q hq; have:=this.lh; have:=(ok.q q hq).lc; have:=(ok.q q hq).lw; omega),Option.bind_some]
  simp
end Ab
end Go.Proofs.YtcggeefhhegeoaaGreatDoor
