import Derived.Test.YtcggeefhhegeoaaGreatDoorQueH
namespace Go.Proofs.YtcggeefhhegeoaaGreatDoor
namespace Ab
set_option linter.unusedVariables false
set_option linter.unusedSimpArgs false
theorem zbO9 (g:Int):0≤zn8 g∧zn8 g≤1073741824:=by
  unfold zn8
  by_cases h:g < 0∨1073741824≤g
  · rw [if_pos (by simpa using h)]; decide
  · rw [if_neg (by simpa using h),zf6 (by omega) (by omega)]; omega
def zK3 (q:Queue):Queue×List Hold×Int:=({ advS q with gen:=zn8 q.gen },advG q,0)
theorem SoundP.gen' {q:Queue} (h:SoundP q) (g:Int) (h1:0≤g) (h2:g≤1073741824):SoundP { q with gen:=g }:=⟨h.res,h.hv,h.cl,h.cn,h.cg,h.wv,h.wl,h.wg,h1,h2⟩
theorem zY6 {q:Queue} (h:SoundP q):zk0 (zK3 q).1=true:=by
  rw [zx5]
  exact ⟨h.adv.gen' _ (zbO9 _).1 (zbO9 _).2,by show canQ (advS q)=false; exact zdb6 q⟩
theorem zcp6 (q:Queue) (p:Proc):(zA5 q p).2=true ↔ ∃ w ∈ q.converts++q.waits,w.proc=p:=by
  unfold zA5 zbs5
  cases h:(q.converts++q.waits).find? fun w=>decide (w.proc=p) with
  | none =>
    rw [List.find?_eq_none] at h
    simp only [decide_eq_true_eq] at h
    constructor
    · intro h2; cases h2
    · rintro ⟨w,hw,e⟩; exact absurd e (h w hw)
  | some w =>
    have h1:=List.mem_of_find?_eq_some h
    have h2:=List.find?_some h
    exact ⟨fun _=>⟨w,h1,by simpa using h2⟩,fun _=>rfl⟩
theorem zaK6 {q:Queue} {p:Proc}:(zA5 q p).2=false ↔ ∀ w ∈ q.converts++q.waits,w.proc≠p:=by
  rw [← Bool.not_eq_true,zcp6]
  constructor
  · exact fun h w hw e=>h ⟨w,hw,e⟩
  · rintro h ⟨w,hw,e⟩; exact h w hw e
theorem zcN4:∀ a ∈ [(1:Int),2,3,4,5],∀ b ∈ [(1:Int),2,3,4,5],supM a b ∈ [(1:Int),2,3,4,5]∧covM (supM a b) a=true∧covM (supM a b) b=true:=by decide
theorem zcN5 {r:Resource} {a b:Amount} (ha:zb3 r a=true) (hb:zb3 r b=true) (hk:r.kind=1):zat6 r a b=⟨supM a.mode b.mode,0⟩:=by
  unfold zat6
  rw [zC4 ha,zC4 hb,(zap5 a).2 (zab7 ha),(zap5 b).2 (zab7 hb)]
  simp [hk,Amount.zero]
theorem zcN6 {r:Resource} {a b:Amount} (ha:zb3 r a=true) (hb:zb3 r b=true) (hk:r.kind≠1):zat6 r a b=⟨0,if a.units < b.units then b.units else a.units⟩:=by
  unfold zat6
  rw [zC4 ha,zC4 hb,(zap5 a).2 (zab7 ha),(zap5 b).2 (zab7 hb)]
  simp [hk,Amount.zero]
theorem zbP0 {r:Resource} {h a:Amount} (hh:zb3 r h=true) (ha:zb3 r a=true) (hc:covA r h a=false) :
    zb3 r (zat6 r h a)=true∧covA r (zat6 r h a) h=true∧covA r (zat6 r h a) a=true∧zat6 r h a≠h:=by
  have hf:zb3 r (zat6 r h a)=true∧covA r (zat6 r h a) h=true∧covA r (zat6 r h a) a=true:=by
    have fh:=(zK1 r h).1 hh
    have fa:=(zK1 r a).1 ha
    by_cases hk:r.kind=1
    · have m1:h.mode ∈ [(1:Int),2,3,4,5]:=by simp; omega
      have m2:a.mode ∈ [(1:Int),2,3,4,5]:=by simp; omega
      obtain ⟨s1,s2,s3⟩:=zcN4 _ m1 _ m2
      rw [zcN5 hh ha hk]
      have hfit:zb3 r ⟨supM h.mode a.mode,0⟩=true:=by
        rw [zK1]; left
        simp at s1
        exact ⟨hk,by omega,by simp only; omega,by simp only; omega,rfl⟩
      refine ⟨hfit,?_,?_⟩
      · rw [zaa2]; exact ⟨zC4 hfit,zC4 hh,.inr ⟨zab7 hfit,zab7 hh,.inl ⟨hk,s2⟩⟩⟩
      · rw [zaa2]; exact ⟨zC4 hfit,zC4 ha,.inr ⟨zab7 hfit,zab7 ha,.inl ⟨hk,s3⟩⟩⟩
    · rw [zcN6 hh ha hk]
      have hfit:zb3 r ⟨0,if h.units < a.units then a.units else h.units⟩=true:=by
        rw [zK1]; right
        refine ⟨by omega,by omega,by omega,rfl,?_,?_⟩ <;> simp only <;> split <;> omega
      refine ⟨hfit,?_,?_⟩
      · rw [zaa2]; refine ⟨zC4 hfit,zC4 hh,.inr ⟨zab7 hfit,zab7 hh,.inr ⟨hk,?_⟩⟩⟩
        simp only; split <;> omega
      · rw [zaa2]; refine ⟨zC4 hfit,zC4 ha,.inr ⟨zab7 hfit,zab7 ha,.inr ⟨hk,?_⟩⟩⟩
        simp only; split <;> omega
  refine ⟨hf.1,hf.2.1,hf.2.2,fun e=>?_⟩
  have:=hf.2.2
  rw [e,hc] at this; cases this
def claimC (q:Queue) (p:Proc) (a:Amount):Queue:={ q with converts:=q.converts++[⟨p,zat6 q.resource (getH q.holds p) a,0,0⟩] }
def claimW (q:Queue) (p:Proc) (a:Amount) (pr:Int):Queue:={ q with waits:=zbe6 q.waits ⟨p,a,pr,0⟩ (zak6 q.waits ⟨p,a,pr,0⟩ q.waits.length) }
def zaB6 (q:Queue) (p:Proc):Queue:={ q with converts:=rmL q.converts p,waits:=rmL q.waits p }
def zaF7 (q:Queue) (p:Proc) (a:Amount):Queue:={ q with holds:=setL q.holds p a }
def hasQ (q:Queue) (p:Proc):Bool:=(zA5 q p).2||!zl2 (getH q.holds p)
def errQ (e:Int):Queue×List Hold×Int:=(Queue.zero,[],e)
def zbl5 (p:Proc) (pr:Int):Bool:=zb6 p&&(decide (0≤pr)&&decide (pr≤7))
def zW2 (q:Queue) (p:Proc) (a:Amount) (pr:Int):Queue×List Hold×Int :=
  if zk0 q=false then errQ 2 else if zbl5 p pr=false then errQ 1 else if zb3 q.resource a=false then errQ 12 else if (zA5 q p).2=true then errQ 14
  else if covA q.resource (getH q.holds p) a=true then (q,[],0) else if getH q.holds p≠Amount.zero then zK3 (claimC q p a)
  else if 8≤q.holds.length+q.waits.length then errQ 4 else zK3 (claimW q p a pr)
def zF1 (q:Queue) (p:Proc):Queue×List Hold×Int :=
  if zk0 q=false then errQ 2 else if (zA5 q p).2=false then errQ 10 else zK3 (zaB6 q p)
def zC8 (q:Queue) (p:Proc) (a:Amount):Queue×List Hold×Int :=
  if zk0 q=false then errQ 2 else if getH q.holds p=Amount.zero then errQ 10 else if (zA5 q p).2=true then errQ 14
  else if covA q.resource (getH q.holds p) a=false then errQ 12 else if getH q.holds p=a then (q,[],0) else zK3 (zaF7 q p a)
def zG4 (q:Queue) (p:Proc):Queue×List Hold×Int :=
  if zk0 q=false then errQ 2 else if hasQ q p=false then errQ 10 else zK3 (del q p)
theorem SoundP.cancel {q:Queue} (h:SoundP q) (p:Proc):SoundP (zaB6 q p):=by
  have h1:=(zbi1 q.converts p).length_le
  have h2:=(zbi1 q.waits p).length_le
  have h4:=h.cl; have h5:=h.wl
  exact ⟨h.res,h.hv,by simp only [zaB6]; omega,h.cn.sublist ((zbi1 _ _).map _),fun w hw=>h.cg w (zaW4.1 hw).1,zca1 p h.wv,by simp only [zaB6]; omega,fun w hw=>h.wg w (zaW4.1 hw).1,h.gen⟩
theorem SoundP.claimC {q:Queue} (h:SoundP q) {p:Proc} {a:Amount} (ha:zb3 q.resource a=true) (hw:(zA5 q p).2=false) (hc:covA q.resource (getH q.holds p) a=false) (hz:getH q.holds p≠Amount.zero):SoundP (claimC q p a):=by
  have hv:=(zW1 _ _).1 h.hv
  have hfit:zb3 q.resource (getH q.holds p)=true:=(hv.2.2.1.each _ (zaK5 hz)).2
  obtain ⟨j1,j2,j3,j4⟩:=zbP0 hfit ha hc
  rw [zaK6] at hw
  refine ⟨h.res,h.hv,?_,?_,fun w hww=>?_,h.wv,h.wl,h.wg,h.gen⟩
  ·
    have hn:((q.converts++[(⟨p,zat6 q.resource (getH q.holds p) a,0,0⟩:Wait)]).map (·.proc)).Nodup:=by
      rw [List.map_append,List.nodup_append]
      refine ⟨h.cn,by simp,fun x hx y hy=>?_⟩
      simp only [List.map_cons,List.map_nil,List.mem_singleton] at hy
      obtain ⟨c,hcc,rfl⟩:=List.mem_map.1 hx
      rw [hy]; exact hw c (List.mem_append_left _ hcc)
    have hs:∀ x ∈ (q.converts++[(⟨p,zat6 q.resource (getH q.holds p) a,0,0⟩:Wait)]).map (·.proc),x ∈ q.holds.map (·.proc):=by
      intro x hx
      simp only [List.map_append,List.mem_append,List.map_cons,List.map_nil,List.mem_singleton] at hx
      rcases hx with hx|rfl
      · obtain ⟨c,hcc,rfl⟩:=List.mem_map.1 hx
        exact List.mem_map.2 ⟨_,zaK5 (h.cg c hcc).1,rfl⟩
      · exact List.mem_map.2 ⟨_,zaK5 hz,rfl⟩
    have:=List.Nodup.length_le_of_subset hn hs
    have h8:=zak4 h.hv
    rw [List.length_map,List.length_map] at this
    show (q.converts++[(⟨p,zat6 q.resource (getH q.holds p) a,0,0⟩:Wait)]).length≤8
    omega
  · show ((q.converts++[(⟨p,zat6 q.resource (getH q.holds p) a,0,0⟩:Wait)]).map (·.proc)).Nodup
    rw [List.map_append,List.nodup_append]
    refine ⟨h.cn,by simp,fun x hx y hy=>?_⟩
    simp only [List.map_cons,List.map_nil,List.mem_singleton] at hy
    obtain ⟨c,hcc,rfl⟩:=List.mem_map.1 hx
    rw [hy]; exact hw c (List.mem_append_left _ hcc)
  · rcases List.mem_append.1 hww with hww|hww
    · exact h.cg w hww
    · rw [List.mem_singleton] at hww; subst hww
      exact ⟨hz,j1,j2,j4,rfl,rfl⟩
theorem zca3 {r:Resource} {p:Proc} {a:Amount} {pr:Int} (ha:zb3 r a=true) (hp:zbl5 p pr=true):zl8 ⟨p,a,pr,0⟩=true:=by
  rw [zK1] at ha
  unfold zbl5 at hp
  simp only [Bool.and_eq_true,decide_eq_true_eq] at hp
  rw [← zaH1]
  unfold zz8
  rw [zax2,hp.1]
  unfold zr2 zx6
  simp
  omega
theorem zdm3 {q:Queue} (h:SoundP q) {p:Proc} {a:Amount} {pr:Int} (ha:zb3 q.resource a=true) (hp:zbl5 p pr=true) (hw:(zA5 q p).2=false) (hl:q.waits.length < 8) :
    insS q.waits ⟨p,a,pr,0⟩=((claimW q p a pr).waits,(zak6 q.waits ⟨p,a,pr,0⟩ q.waits.length:Int),0):=by
  unfold insS
  rw [if_neg (by rw [h.wv]; decide),if_neg (by rw [zca3 ha hp]; simp),if_neg ?_,if_neg (by omega)]
  · rfl
  · rw [zaK6] at hw
    exact zcM9.2 fun w hww=>hw w (List.mem_append_right _ hww)
theorem SoundP.claimW {q:Queue} (h:SoundP q) {p:Proc} {a:Amount} {pr:Int} (ha:zb3 q.resource a=true) (hp:zbl5 p pr=true) (hw:(zA5 q p).2=false) (hz:getH q.holds p=Amount.zero) (hl:q.holds.length+q.waits.length < 8):SoundP (claimW q p a pr):=by
  rw [zaK6] at hw
  have hne:∀ e ∈ q.waits,e.proc≠p:=fun e he=>hw e (List.mem_append_right _ he)
  have hv:=zcy5 (w:=⟨p,a,pr,0⟩) h.wv (zca3 ha hp) hne (by omega)
  refine ⟨h.res,h.hv,h.cl,h.cn,h.cg,hv,?_,fun w hww=>?_,h.gen⟩
  · have hn:=zbh8 q.waits ⟨p,a,pr,0⟩ q.waits.length
    simp only [Ab.claimW,zbe6,List.length_append,List.length_cons,List.length_map,List.length_take,List.length_drop]
    omega
  · simp only [Ab.claimW,zbe6,List.mem_append,List.mem_cons,List.mem_map] at hww
    rcases hww with hww|rfl|⟨x,hx,rfl⟩
    · exact h.wg w (List.mem_of_mem_take hww)
    · exact ⟨ha,hz⟩
    · exact h.wg x (List.mem_of_mem_drop hx)
theorem SoundP.lower {q:Queue} (h:SoundP q) {p:Proc} {a:Amount} (hw:(zA5 q p).2=false) (hz:getH q.holds p≠Amount.zero) (hc:covA q.resource (getH q.holds p) a=true):SoundP (zaF7 q p a):=by
  rw [zaK6] at hw
  have hl:=zca2 a h.hv hz
  have h5:=h.wl
  refine ⟨h.res,zcp5 h.hv hz hc,h.cl,h.cn,fun w hww=>?_,h.wv,by simp only [zaF7]; omega,fun w hww=>?_,h.gen⟩
  · simp only [zaF7,zP0 (hw w (List.mem_append_left _ hww))]
    exact h.cg w hww
  · simp only [zaF7,zP0 (hw w (List.mem_append_right _ hww))]
    exact h.wg w hww
theorem zbi2 {q:Queue} {p:Proc} {a:Amount} {pr:Int} (h:(zW2 q p a pr).2.2=0):SoundP q∧canQ q=false∧zbl5 p pr=true∧zb3 q.resource a=true∧(zA5 q p).2=false ∧
    ((covA q.resource (getH q.holds p) a=true∧zW2 q p a pr=(q,[],0)) ∨
     (covA q.resource (getH q.holds p) a=false∧getH q.holds p≠Amount.zero∧zW2 q p a pr=zK3 (claimC q p a)∧SoundP (claimC q p a)) ∨
     (covA q.resource (getH q.holds p) a=false∧getH q.holds p=Amount.zero∧q.holds.length+q.waits.length < 8∧zW2 q p a pr=zK3 (claimW q p a pr)∧SoundP (claimW q p a pr))):=by
  unfold zW2 at h ⊢
  by_cases h1:zk0 q=false
  · rw [if_pos h1] at h; exact absurd h (by decide)
  rw [if_neg h1] at h ⊢
  by_cases h2:zbl5 p pr=false
  · rw [if_pos h2] at h; exact absurd h (by decide)
  rw [if_neg h2] at h ⊢
  by_cases h3:zb3 q.resource a=false
  · rw [if_pos h3] at h; exact absurd h (by decide)
  rw [if_neg h3] at h ⊢
  by_cases h4:(zA5 q p).2=true
  · rw [if_pos h4] at h; exact absurd h (by decide)
  rw [if_neg h4] at h ⊢
  rw [Bool.not_eq_false] at h1 h2 h3
  rw [Bool.not_eq_true] at h4
  obtain ⟨hs,hcn⟩:=(zx5 q).1 h1
  refine ⟨hs,hcn,h2,h3,h4,?_⟩
  by_cases h5:covA q.resource (getH q.holds p) a=true
  · rw [if_pos h5]; exact .inl ⟨h5,rfl⟩
  rw [if_neg h5] at h ⊢
  rw [Bool.not_eq_true] at h5
  by_cases h6:getH q.holds p≠Amount.zero
  · rw [if_pos h6]; exact .inr (.inl ⟨h5,h6,rfl,hs.claimC h3 h4 h5 h6⟩)
  rw [if_neg h6] at h ⊢
  by_cases h7:8≤q.holds.length+q.waits.length
  · rw [if_pos h7] at h; exact absurd h (by decide)
  rw [if_neg h7]
  have h6:=Decidable.not_not.1 h6
  exact .inr (.inr ⟨h5,h6,by omega,rfl,hs.claimW h3 h2 h4 h6 (by omega)⟩)
theorem zaK7 {q:Queue} {p:Proc} (h:(zF1 q p).2.2=0):SoundP q∧canQ q=false∧(zA5 q p).2=true∧zF1 q p=zK3 (zaB6 q p)∧SoundP (zaB6 q p):=by
  unfold zF1 at h ⊢
  by_cases h1:zk0 q=false
  · rw [if_pos h1] at h; exact absurd h (by decide)
  rw [if_neg h1] at h ⊢
  by_cases h2:(zA5 q p).2=false
  · rw [if_pos h2] at h; exact absurd h (by decide)
  rw [if_neg h2]
  rw [Bool.not_eq_false] at h1 h2
  obtain ⟨hs,hcn⟩:=(zx5 q).1 h1
  exact ⟨hs,hcn,h2,rfl,hs.cancel p⟩
theorem zaH8 {q:Queue} {p:Proc} {a:Amount} (h:(zC8 q p a).2.2=0):SoundP q∧canQ q=false∧getH q.holds p≠Amount.zero∧(zA5 q p).2=false∧covA q.resource (getH q.holds p) a=true ∧
    ((getH q.holds p=a∧zC8 q p a=(q,[],0))∨(getH q.holds p≠a∧zC8 q p a=zK3 (zaF7 q p a)∧SoundP (zaF7 q p a))):=by
  unfold zC8 at h ⊢
  by_cases h1:zk0 q=false
  · rw [if_pos h1] at h; exact absurd h (by decide)
  rw [if_neg h1] at h ⊢
  by_cases h2:getH q.holds p=Amount.zero
  · rw [if_pos h2] at h; exact absurd h (by decide)
  rw [if_neg h2] at h ⊢
  by_cases h3:(zA5 q p).2=true
  · rw [if_pos h3] at h; exact absurd h (by decide)
  rw [if_neg h3] at h ⊢
  by_cases h4:covA q.resource (getH q.holds p) a=false
  · rw [if_pos h4] at h; exact absurd h (by decide)
  rw [if_neg h4] at h ⊢
  rw [Bool.not_eq_false] at h1 h4
  rw [Bool.not_eq_true] at h3
  obtain ⟨hs,hcn⟩:=(zx5 q).1 h1
  refine ⟨hs,hcn,h2,h3,h4,?_⟩
  by_cases h5:getH q.holds p=a
  · rw [if_pos h5]; exact .inl ⟨h5,rfl⟩
  · rw [if_neg h5]; exact .inr ⟨h5,rfl,hs.lower h3 h2 h4⟩
theorem zbo4 {q:Queue} {p:Proc} (h:(zG4 q p).2.2=0):SoundP q∧canQ q=false∧hasQ q p=true∧zG4 q p=zK3 (del q p)∧SoundP (del q p):=by
  unfold zG4 at h ⊢
  by_cases h1:zk0 q=false
  · rw [if_pos h1] at h; exact absurd h (by decide)
  rw [if_neg h1] at h ⊢
  by_cases h2:hasQ q p=false
  · rw [if_pos h2] at h; exact absurd h (by decide)
  rw [if_neg h2]
  rw [Bool.not_eq_false] at h1 h2
  obtain ⟨hs,hcn⟩:=(zx5 q).1 h1
  exact ⟨hs,hcn,h2,rfl,hs.del p⟩
def ordQ (q:Queue):List Wait:=q.converts++q.waits
theorem zcg7 {q:Queue} (h:canQ q=true):ordQ q=(zM6 q).1 :: ordQ (popQ q)∧(popQ q).holds=setL q.holds (zM6 q).1.proc (zM6 q).1.amount:=by
 cases zcy6 h with
 | con w cs he hd hr hp=>rw [hp,hd]; unfold ordQ; rw [he]; exact ⟨rfl,rfl⟩
 | wait w ws hc he hd hr hp=>rw [hp,hd]; unfold ordQ; rw [hc,he]; exact ⟨rfl,rfl⟩
theorem zdb8 {q:Queue} (h:canQ q=true):zaG4 q.resource q.holds (zM6 q).1.proc (zM6 q).1.amount=true:=by
 unfold canQ at h; rw [Bool.and_eq_true] at h; exact h.2
theorem zca4 {q:Queue} {p:Proc} (h:∀ w ∈ ordQ q,w.proc≠p):getH (advS q).holds p=getH q.holds p∧∀ w ∈ ordQ (advS q),w.proc≠p:=by
 have:=zbs8 (P:=fun x=>getH x.holds p=getH q.holds p∧∀ w ∈ ordQ x,w.proc≠p) (fun x hc hx=>by
  obtain ⟨h1,h2⟩:=zcg7 hc
  obtain ⟨h3,h4⟩:=hx
  rw [h1] at h4
  refine ⟨?_,fun w hw=>h4 w (.tail _ hw)⟩
  rw [h2,zP0 (Ne.symm (h4 _ (.head _)))]; exact h3) q ⟨rfl,h⟩
 exact this
theorem zaK8 {q:Queue} (hs:SoundP q) (p:Proc):covA q.resource (getH (advS q).holds p) (getH q.holds p)=true:=by
 have:=zbs8 (P:=fun x=>SoundP x∧x.resource=q.resource∧covA q.resource (getH x.holds p) (getH q.holds p)=true) (fun x hc ⟨h1,h2,h3⟩=>by
  refine ⟨h1.pop hc,by rw [(zcg6 x).2]; exact h2,?_⟩
  obtain ⟨e1,e2⟩:=zcg7 hc
  rw [e2]
  by_cases hp:p=(zM6 x).1.proc
  ·subst hp
   rw [zaK4]
   refine zaW3 ?_ h3
   cases zcy6 hc with
   | con w cs he hd hr hp=>rw [hd,← h2]; exact (h1.cg w (by rw [he]; exact .head _)).2.2.1
   | wait w ws hcc he hd hr hp =>
    rw [hd,(h1.wg w (by rw [he]; exact .head _)).2,← h2]
    have hf:=(zaz8 hr).2.2.1
    exact zby4 (zC4 hf) (zbC6 hf)
  ·rw [zP0 hp]; exact h3) q ⟨hs,rfl,zan6 (zat7 hs.hv p)⟩
 exact this.2.2
theorem zdb9 {r:Resource} {l:List Hold} (h:zK2 r l=true) (p:Proc):getH l p≠Amount.zero ↔ p ∈ l.map (·.proc):=by
 constructor
 ·intro hp; exact List.mem_map.2 ⟨_,zaK5 hp,rfl⟩
 ·intro hp
  obtain ⟨x,hx,rfl⟩:=List.mem_map.1 hp
  rw [zcp3 (zbh9 h) hx]
  exact zab7 (((zW1 _ _).1 h).2.2.1.each x hx).2
theorem zE4 (q:Queue) (p:Proc):hasQ q p=true ↔ (∃ w ∈ ordQ q,w.proc=p)∨getH q.holds p≠Amount.zero:=by
 unfold hasQ
 rw [Bool.or_eq_true,zcp6,Bool.not_eq_true',zap5]
 rfl
theorem zdm4 {q:Queue} (h:SoundP q) (p:Proc):hasQ q p=true ↔ p ∈ (ordQ q).map (·.proc)∨p ∈ q.holds.map (·.proc):=by
 simp only [zE4,zdb9 h.hv,List.mem_map]
theorem zdm5 {q:Queue} (hc:canQ q=true) (p:Proc):hasQ (popQ q) p=hasQ q p:=by
 rw [Bool.eq_iff_iff,zE4,zE4]
 obtain ⟨h1,h2⟩:=zcg7 hc
 rw [h1,h2]
 have hz:=zab7 (zaz8 (zdb8 hc)).2.2.1
 by_cases hp:p=(zM6 q).1.proc
 ·subst hp
  rw [zaK4]
  exact ⟨fun _=>.inl ⟨_,.head _,rfl⟩,fun _=>.inr hz⟩
 ·rw [zP0 hp]
  constructor
  ·rintro (⟨w,hw,e⟩|h)
   ·exact .inl ⟨w,.tail _ hw,e⟩
   ·exact .inr h
  ·rintro (⟨w,hw,e⟩|h)
   ·rcases List.mem_cons.1 hw with rfl|hw
    ·exact absurd e.symm hp
    ·exact .inl ⟨w,hw,e⟩
   ·exact .inr h
theorem zcG5 (q:Queue) (p:Proc):hasQ (advS q) p=hasQ q p:=zbs8 (P:=fun x=>hasQ x p=hasQ q p) (fun x hc h=>by rw [zdm5 hc]; exact h) q rfl
theorem zcG6 (q:Queue) (g:Int) (p:Proc):hasQ { q with gen:=g } p=hasQ q p:=rfl
theorem zbf1 {q:Queue} {p:Proc} {w:Wait}:w ∈ ordQ (del q p) ↔ w ∈ ordQ q∧w.proc≠p:=by
 unfold ordQ del
 simp only [List.mem_append,zaW4]
 constructor
 ·rintro (⟨a,b⟩|⟨a,b⟩)
  ·exact ⟨.inl a,b⟩
  ·exact ⟨.inr a,b⟩
 ·rintro ⟨a|a,b⟩
  ·exact .inl ⟨a,b⟩
  ·exact .inr ⟨a,b⟩
theorem zdm6 (q:Queue) (p x:Proc):hasQ (del q p) x=true ↔ hasQ q x=true∧x≠p:=by
 rw [zE4,zE4]
 by_cases hx:x=p
 ·subst hx
  constructor
  ·rintro (⟨w,hw,e⟩|h)
   ·exact absurd e (zbf1.1 hw).2
   ·exact absurd (zaT1 _ _) h
  ·rintro ⟨_,h⟩; exact absurd rfl h
 ·have e1:getH (del q p).holds x=getH q.holds x:=zae5 hx _
  rw [e1]
  constructor
  ·rintro (⟨w,hw,e⟩|h)
   ·exact ⟨.inl ⟨w,(zbf1.1 hw).1,e⟩,hx⟩
   ·exact ⟨.inr h,hx⟩
  ·rintro ⟨⟨w,hw,e⟩|h,_⟩
   ·exact .inl ⟨w,zbf1.2 ⟨hw,by rw [e]; exact hx⟩,e⟩
   ·exact .inr h
def remN (q:Queue) (p:Proc):Queue:=if (zG4 q p).2.2=0 then (zG4 q p).1 else q
theorem zK4 (q:Queue):(zK3 q).1={ advS q with gen:=zn8 q.gen }:=rfl
theorem zbo5 {q:Queue} (h:zk0 q=true) {p:Proc} (hp:hasQ q p=true):zG4 q p=zK3 (del q p):=by
 unfold zG4; rw [if_neg (by rw [h]; decide),if_neg (by rw [hp]; decide)]
theorem zaP8 {q:Queue} (h:zk0 q=true) {p:Proc} (hp:hasQ q p=false):zG4 q p=errQ 10:=by
 unfold zG4; rw [if_neg (by rw [h]; decide),if_pos hp]
theorem zcg8 {q:Queue} (h:zk0 q=true) (p:Proc):zk0 (remN q p)=true:=by
 unfold remN
 split
 ·rename_i h0
  obtain ⟨_,_,_,e,hs⟩:=zbo4 h0
  rw [e]; exact zY6 hs
 ·exact h
theorem zbD0 {q:Queue} (h:zk0 q=true) {p x:Proc} (hx:x≠p):covA q.resource (getH (remN q p).holds x) (getH q.holds x)=true∧(remN q p).resource=q.resource:=by
 obtain ⟨hs,hc⟩:=(zx5 q).1 h
 unfold remN
 cases hp:hasQ q p with
 | true =>
  rw [zbo5 h hp,if_pos (show (zK3 (del q p)).2.2=0 from rfl),zK4]
  have h1:=zaK8 (hs.del p) x
  have h2:getH (del q p).holds x=getH q.holds x:=zae5 hx _
  rw [h2] at h1
  exact ⟨h1,(zcG4 (del q p)).2⟩
 | false =>
  rw [zaP8 h hp,if_neg (by decide)]
  exact ⟨zan6 (zat7 hs.hv x),rfl⟩
theorem zdc0 {q:Queue} (h:zk0 q=true) (p x:Proc):hasQ (remN q p) x=true ↔ hasQ q x=true∧x≠p:=by
 unfold remN
 cases hp:hasQ q p with
 | true =>
  rw [zbo5 h hp,if_pos (show (zK3 (del q p)).2.2=0 from rfl),zK4,zcG6,zcG5,zdm6]
 | false =>
  rw [zaP8 h hp,if_neg (by decide)]
  constructor
  ·intro hx; exact ⟨hx,fun e=>by rw [e,hp] at hx; cases hx⟩
  ·exact And.left
theorem zaK9:∀ {a b:List Proc},a.Pairwise ltP→b.Pairwise ltP→(∀ x,x ∈ a ↔ x ∈ b)→a=b
 | [],b,_,_,h=>by
  cases b with
  | nil=>rfl
  | cons y b=>exact absurd ((h y).2 (.head _)) (by simp)
 | x :: a,[],_,_,h=>absurd ((h x).1 (.head _)) (by simp)
 | x :: a,y :: b,ha,hb,h=>by
  rw [List.pairwise_cons] at ha hb
  have hxy:x=y:=by
   rcases List.mem_cons.1 ((h x).1 (.head _)) with e|hx
   ·exact e
   ·rcases List.mem_cons.1 ((h y).2 (.head _)) with e|hy
    ·exact e.symm
    ·exact absurd (zat3 (ha.1 y hy) (hb.1 x hx)) (zar7 x)
  subst hxy
  congr 1
  refine zaK9 ha.2 hb.2 fun z=>?_
  have hz:=h z
  constructor
  ·intro hm
   rcases List.mem_cons.1 (hz.1 (.tail _ hm)) with e|hm'
   ·subst e; exact absurd (ha.1 z hm) (zar7 z)
   ·exact hm'
  ·intro hm
   rcases List.mem_cons.1 (hz.2 (.tail _ hm)) with e|hm'
   ·subst e; exact absurd (hb.1 z hm) (zar7 z)
   ·exact hm'
def zaE4 (p:Proc):List Proc→List Proc
 | []=>[p]
 | x :: t=>if p=x then x :: t else if ltP p x then p :: x :: t else x :: zaE4 p t
theorem zaz9 {p x:Proc}:∀ {l:List Proc},x ∈ zaE4 p l ↔ x=p∨x ∈ l
 | []=>by simp [zaE4]
 | y :: t=>by
  simp only [zaE4]
  split
  ·rename_i h; subst h
   simp only [List.mem_cons]
   constructor
   ·intro h; exact .inr h
   ·rintro (rfl|h)
    ·exact .inl rfl
    ·exact h
  ·split
   ·simp only [List.mem_cons]
   ·simp only [List.mem_cons,zaz9 (l:=t)]
    constructor
    ·rintro (h|h|h)
     ·exact .inr (.inl h)
     ·exact .inl h
     ·exact .inr (.inr h)
    ·rintro (h|h|h)
     ·exact .inr (.inl h)
     ·exact .inl h
     ·exact .inr (.inr h)
theorem zaA0 {p:Proc}:∀ {l:List Proc},l.Pairwise ltP→(zaE4 p l).Pairwise ltP
 | [],_=>by simp [zaE4]
 | y :: t,h=>by
  simp only [zaE4]
  split
  ·exact h
  ·rename_i hne
   rw [List.pairwise_cons] at h
   split
   ·rename_i hlt
    rw [List.pairwise_cons]
    refine ⟨fun x hx=>?_,List.pairwise_cons.2 h⟩
    rcases List.mem_cons.1 hx with rfl|hx
    ·exact hlt
    ·exact zat3 hlt (h.1 x hx)
   ·rename_i hlt
    rw [List.pairwise_cons]
    refine ⟨fun x hx=>?_,zaA0 h.2⟩
    rcases zaz9.1 hx with rfl|hx
    ·rcases zat4 hne with h1|h1
     ·exact absurd h1 hlt
     ·exact h1
    ·exact h.1 x hx
theorem zcy7 {p:Proc}:∀ {l:List Proc},l.Pairwise ltP→p ∈ l→zaE4 p l=l:=fun hl hp =>
 zaK9 (zaA0 hl) hl fun x=>by
  rw [zaz9]
  constructor
  ·rintro (rfl|h)
   ·exact hp
   ·exact h
  ·exact .inr
def zbf2 (l:List Proc):List Proc:=l.foldl (fun s p=>zaE4 p s) []
theorem zbf3:∀ (l s:List Proc),s.Pairwise ltP→(l.foldl (fun s p=>zaE4 p s) s).Pairwise ltP∧∀ x,x ∈ l.foldl (fun s p=>zaE4 p s) s ↔ x ∈ s∨x ∈ l
 | [],s,h=>⟨h,fun x=>by simp⟩
 | p :: l,s,h=>by
  obtain ⟨h1,h2⟩:=zbf3 l (zaE4 p s) (zaA0 h)
  refine ⟨h1,fun x=>?_⟩
  rw [List.foldl_cons,h2,zaz9,List.mem_cons]
  constructor
  ·rintro ((h|h)|h)
   ·exact .inr (.inl h)
   ·exact .inl h
   ·exact .inr (.inr h)
  ·rintro (h|h|h)
   ·exact .inl (.inr h)
   ·exact .inl (.inl h)
   ·exact .inr h
theorem zaT2 (l:List Proc):(zbf2 l).Pairwise ltP:=(zbf3 l [] .nil).1
theorem zaA1 {l:List Proc} {x:Proc}:x ∈ zbf2 l ↔ x ∈ l:=by
 have:=(zbf3 l [] .nil).2 x
 unfold zbf2
 simpa using this
theorem zcg9 {l s:List Proc} (h:s.Pairwise ltP) (hm:∀ x,x ∈ s ↔ x ∈ l):s=zbf2 l:=zaK9 h (zaT2 l) fun x=>by rw [hm,zaA1]
theorem zaT3 {l:List Proc} (h:l.Pairwise ltP):l.Nodup:=h.imp fun hab e=>by subst e; exact zar7 _ hab
theorem zbi3 (l:List Proc):(zbf2 l).length≤l.length:=List.Nodup.length_le_of_subset (zaT3 (zaT2 l)) fun x hx=>zaA1.1 hx
def dst:List Proc→List Proc
 | []=>[]
 | [x]=>[x]
 | x :: y :: t=>if x=y then dst (y :: t) else x :: dst (y :: t)
theorem zbH2:∀ {l:List Proc} {x:Proc},x ∈ dst l ↔ x ∈ l
 | [],x=>by simp [dst]
 | [y],x=>by simp [dst]
 | y :: z :: t,x=>by
  simp only [dst]
  split
  ·rename_i h; subst h
   rw [zbH2 (l:=y :: t)]
   simp
  ·rw [List.mem_cons,zbH2 (l:=z :: t),List.mem_cons (b:=y)]
theorem zch0:∀ {l:List Proc},l.Pairwise (fun x y=>¬ ltP y x)→(dst l).Pairwise ltP
 | [],_=>by simp [dst]
 | [x],_=>by simp [dst]
 | x :: y :: t,h=>by
  simp only [dst]
  rw [List.pairwise_cons] at h
  split
  ·exact zch0 h.2
  ·rename_i hne
   rw [List.pairwise_cons]
   refine ⟨fun z hz=>?_,zch0 h.2⟩
   have hz:=zbH2.1 hz
   by_cases e:x=z
   ·subst e
    rcases List.mem_cons.1 hz with e|hz'
    ·exact absurd e hne
    ·have h2:=(List.pairwise_cons.1 h.2).1 x hz'
     rcases zat4 hne with h3|h3
     ·exact absurd h3 h2
     ·exact absurd h3 (h.1 y (.head _))
   ·rcases zat4 e with h1|h1
    ·exact h1
    ·exact absurd h1 (h.1 z hz)
theorem zcN7 {l s:List Proc} (h:s.Pairwise fun x y=>¬ ltP y x) (hm:∀ x,x ∈ s ↔ x ∈ l):dst s=zbf2 l:=zcg9 (zch0 h) fun x=>by rw [zbH2,hm]
theorem zcp7:∀ (l:List Proc) (x y:Proc),dst (l++[x,y])=if x=y then dst (l++[x]) else dst (l++[x])++[y]
 | [],x,y=>by
  by_cases h:x=y <;> simp [dst,h]
 | [a],x,y=>by
  by_cases h:x=y
  ·subst h; by_cases h2:a=x <;> simp [dst,h2]
  ·by_cases h2:a=x
   ·subst h2; simp [dst,h]
   ·simp [dst,h,h2]
 | a :: b :: l,x,y=>by
  have ih:=zcp7 (b :: l) x y
  simp only [List.cons_append,dst] at ih ⊢
  rw [ih]
  by_cases h:x=y <;> by_cases h2:a=b <;> simp [h,h2]
theorem zcy8 (x y:Proc):¬ ltP y x∨¬ ltP x y:=by
 by_cases h:ltP y x
 ·exact .inr (zbh5 h)
 ·exact .inl h
theorem zch1 (l:List Proc):(l.mergeSort fun x y=>!decide (ltP y x)).Pairwise fun x y=>¬ ltP y x:=by
 have:=List.pairwise_mergeSort (le:=fun x y=>!decide (ltP y x)) (fun a b c h1 h2=>by
  simp only [Bool.not_eq_true',decide_eq_false_iff_not] at h1 h2 ⊢
  intro h3
  by_cases e:b=a
  ·subst e; exact h2 h3
  ·rcases zat4 e with h4|h4
   ·exact h1 h4
   ·by_cases e2:b=c
    ·subst e2; exact h1 h3
    ·rcases zat4 e2 with h5|h5
     ·exact zbh5 (zat3 h3 h4) h5
     ·exact h2 h5) (fun a b=>by
  rcases zcy8 a b with h|h
  ·simp [h]
  ·simp [h]) l
 exact this.imp fun h=>by simpa using h
theorem ifNT {α:Type} (x y:α):(if (!true)=true then x else y)=y:=rfl
theorem ifTF {α:Type} (x y:α):(if true=false then x else y)=y:=rfl
theorem ifFT {α:Type} (x y:α):(if false=true then x else y)=y:=rfl
theorem zcp8 (l:List Proc) (hl:l.length≤4294967296):zb5 l=some (l.mergeSort fun x y=>!decide (ltP y x)):=by
 unfold zb5
 rw [zg7 hl]
 congr 2
theorem zdc1 {l:List Proc} {i:Nat} (h:i+1 < l.length):l.take (i+2)=l.take i++[l.getD i Proc.zero,l.getD (i+1) Proc.zero]:=by
 rw [List.take_succ_eq_append_getElem (by omega),List.take_succ_eq_append_getElem (by omega),List.append_assoc]
 congr 1
 rw [List.getD_eq_getElem?_getD,List.getElem?_eq_getElem (by omega),List.getD_eq_getElem?_getD,List.getElem?_eq_getElem h]
 rfl
theorem zbP1 {l:List Proc} {i:Nat} (h:i < l.length):l.take (i+1)=l.take i++[l.getD i Proc.zero]:=by
 rw [List.take_succ_eq_append_getElem h]
 congr 1
 rw [List.getD_eq_getElem?_getD,List.getElem?_eq_getElem h]
 rfl
theorem zbP2 {l:List Proc} {i:Nat} (h:i+1 < l.length):dst (l.take (i+2))=if l.getD i Proc.zero=l.getD (i+1) Proc.zero then dst (l.take (i+1)) else dst (l.take (i+1))++[l.getD (i+1) Proc.zero]:=by
 rw [zdc1 h,zcp7,← zbP1 (by omega)]
theorem zbs9 {l m:List Proc} {i j:Nat} (h:l.drop i=m.drop i) (hij:i≤j):l.getD j Proc.zero=m.getD j Proc.zero:=by
 have e:∀ x:List Proc,x.getD j Proc.zero=(x.drop i).getD (j - i) Proc.zero:=fun x=>by
  rw [List.getD_eq_getElem?_getD,List.getD_eq_getElem?_getD,List.getElem?_drop,show i+(j - i)=j by omega]
 rw [e l,e m,h]
theorem zbV8 (a:List Proc) (g:Nat) (hg:1≤g) (hgl:g < a.length) (hl:a.length≤1000000) (he:a.getD g Proc.zero=a.getD (g - 1) Proc.zero) (hd:dst (a.take g)=a.take g) :
  ∃ x,zc0 (zw5 a g) ((g:Int),1,a)=some x∧∃ k:Nat,x.1=(k:Int)∧x.2.length=a.length∧k≤a.length∧x.2.take k=dst a:=by
 refine zr8 (fun s=>∃ k k2:Nat,s.1=(k:Int)∧s.2.1=(k2:Int)∧s.2.2.length=a.length∧1≤k2∧g+k2≤a.length∧k+1≤g+k2∧s.2.2.take k=dst (a.take (g+k2))∧s.2.2.drop (g+k2 - 1)=a.drop (g+k2 - 1)) (fun s=>(a.length - s.2.1.toNat)) _ ?_ _ ?_
 ·rintro ⟨k,k2,s⟩ ⟨kn,k2n,h1,h2,h3,h4,h5,h6,h7,h8⟩
  simp only at h1 h2 h3 h7 h8
  subst h1; subst h2
  unfold zw5
  by_cases hlt:g+k2n < a.length
  ·left
   have w:IntKind.i64.wrap ((k2n:Int) - 1)=((k2n - 1:Nat):Int):=by rw [zf6 (by omega) (by omega)]; omega
   have w2:IntKind.i64.wrap ((k2n:Int)+1)=((k2n+1:Nat):Int):=by rw [zf6 (by omega) (by omega)]; omega
   have w3:IntKind.i64.wrap ((kn:Int)+1)=((kn+1:Nat):Int):=by rw [zf6 (by omega) (by omega)]; omega
   have r1:s.getD (g+k2n) Proc.zero=a.getD (g+k2n) Proc.zero:=zbs9 h8 (by omega)
   have r2:s.getD (g+(k2n - 1)) Proc.zero=a.getD (g+(k2n - 1)) Proc.zero:=zbs9 h8 (by omega)
   have hdt:=zbP2 (l:=a) (i:=g+(k2n - 1)) (by omega)
   rw [show g+(k2n - 1)+2=g+(k2n+1) by omega,show g+(k2n - 1)+1=g+k2n by omega] at hdt
   simp only [Int.toNat_natCast,w,w2,w3]
   rw [if_pos (by simp; omega),zg7 (by omega),zg7 (by omega),r1,r2]
   by_cases hne:a.getD (g+k2n) Proc.zero=a.getD (g+(k2n - 1)) Proc.zero
   ·refine ⟨((kn:Int),((k2n+1:Nat):Int),s),by rw [if_neg (by simp only [hne,decide_true,Bool.not_true,Bool.false_eq_true,not_false_eq_true])],⟨kn,k2n+1,rfl,rfl,h3,by omega,by omega,by omega,?_,?_⟩,by simp only [Int.toNat_natCast]; omega⟩
    ·simp only
     rw [h7,hdt,if_pos hne.symm]
    ·simp only
     rw [show g+(k2n+1) - 1=(g+k2n - 1)+1 by omega,← List.drop_drop,← List.drop_drop,h8]
   ·rw [if_pos (by simpa using hne),zg7 (by omega),zg7 (by omega)]
    refine ⟨(((kn+1:Nat):Int),((k2n+1:Nat):Int),s.set kn (a.getD (g+k2n) Proc.zero)),rfl,⟨kn+1,k2n+1,rfl,rfl,by simp [h3],by omega,by omega,by omega,?_,?_⟩,by simp only [Int.toNat_natCast]; omega⟩
    ·simp only
     rw [hdt,if_neg (fun e=>hne e.symm),← h7,zbP1 (by rw [List.length_set]; omega),List.take_set_of_le (by omega),zu5 _ _ _ _ (by omega)]
    ·simp only
     rw [List.drop_set_of_lt (by omega),show g+(k2n+1) - 1=(g+k2n - 1)+1 by omega,← List.drop_drop,← List.drop_drop,h8]
  ·right
   refine ⟨((kn:Int),s),by simp only [Int.toNat_natCast]; rw [if_neg (by simp; omega)],kn,rfl,h3,by omega,?_⟩
   simp only
   rw [h7,List.take_of_length_le (by omega)]
 ·refine ⟨g,1,rfl,rfl,rfl,by omega,by omega,by omega,?_,rfl⟩
  simp only
  have hdt:=zbP2 (l:=a) (i:=g - 1) (by omega)
  rw [show g - 1+2=g+1 by omega,show g - 1+1=g by omega,if_pos he.symm,hd] at hdt
  exact hdt.symm
theorem zcy9 (a:List Proc) (hl:a.length≤1000000):∃ r,za4 a=some (dst a,r):=by
 unfold za4
 by_cases h2:a.length < 2
 ·rw [if_pos (by simp; omega)]
  refine ⟨a,?_⟩
  have:dst a=a:=by
   match a,h2 with
   | [],_=>rfl
   | [x],_=>rfl
   | x :: y :: t,h=>simp at h; omega
  rw [this]
 ·rw [if_neg (by simp; omega)]
  obtain ⟨x,hx,hp⟩:=zr8 (body:=zt3 a) (fun g=>∃ n:Nat,g=(n:Int)∧1≤n∧n≤a.length∧dst (a.take n)=a.take n) (fun g=>a.length - g.toNat)
   (fun x=>match x with|.inl _=>dst a=a|.inr z=>z.1=dst a) (by
    rintro g ⟨n,rfl,h1,h3,h4⟩
    unfold zt3
    by_cases hlt:n < a.length
    ·have w:IntKind.i64.wrap ((n:Int) - 1)=((n - 1:Nat):Int):=by rw [zf6 (by omega) (by omega)]; omega
     have w2:IntKind.i64.wrap ((n:Int)+1)=((n+1:Nat):Int):=by rw [zf6 (by omega) (by omega)]; omega
     rw [if_pos (by simp; omega),zg7 (by omega),w,w2,zg7 (by omega)]
     simp only [Int.toNat_natCast]
     by_cases he:a.getD n Proc.zero=a.getD (n - 1) Proc.zero
     ·right
      obtain ⟨x,hx,k,hk1,hk2,hk3,hk4⟩:=zbV8 a n h1 hlt hl he h4
      rw [if_pos (decide_eq_true he),zg7 (by omega),hx]
      obtain ⟨x1,x2⟩:=x
      simp only at hk1 hk2 hk4
      subst hk1
      rw [Option.bind_some]
      unfold zC1
      simp only [Int.toNat_natCast]
      rw [zg7 (by omega),zg7 (by omega)]
      refine ⟨_,rfl,?_⟩
      simp only
      rw [List.drop_zero,List.append_assoc,List.take_append_of_le_length (by simp; omega),List.take_take,Nat.min_self,hk4]
     ·left
      refine ⟨((n+1:Nat):Int),by rw [if_neg (by simpa using he)],⟨n+1,rfl,by omega,by omega,?_⟩,by simp only [Int.toNat_natCast]; omega⟩
      have hdt:=zbP2 (l:=a) (i:=n - 1) (by omega)
      rw [show n - 1+2=n+1 by omega,show n - 1+1=n by omega,if_neg (fun e=>he e.symm),h4,← zbP1 hlt] at hdt
      exact hdt
    ·right
     refine ⟨.inl (),by rw [if_neg (by simp; omega)],?_⟩
     simp only
     rw [List.take_of_length_le (by omega)] at h4
     exact h4) 1 ⟨1,rfl,by omega,by omega,by
      match a,h2 with
      | x :: t,_=>simp [dst]⟩
  rw [hx]
  cases x with
  | inl u =>
   simp only at hp
   refine ⟨a,?_⟩
   rw [hp]; rfl
  | inr z =>
   simp only at hp
   refine ⟨z.2,?_⟩
   rw [← hp]; rfl
theorem zar8 (l:List Proc) (hl:l.length≤1000000):zl5 l=some (zbf2 l):=by
 unfold zl5
 rw [zg7 (by omega),zcp8 l (by omega),Option.bind_some]
 obtain ⟨r,h⟩:=zcy9 (l.mergeSort fun x y=>!decide (ltP y x)) (by rw [List.length_mergeSort]; exact hl)
 rw [h]
 simp only [Option.bind_some]
 rw [zcN7 (zch1 l) fun x=>List.mem_mergeSort]
theorem zaT4 (l:List Proc) (p:Proc) (hl:l.length≤1000000):zf7 l p=some (decide (p ∈ l)):=by
 unfold zf7
 have key:=zak3 (body:=zU8 l p) l Proc.zero (fun i (_:Unit)=>(i:Int)) (fun _ x _=>some (if x=p then .inr (Sum.inr true) else .inl ())) (fun _=>Sum.inl (β:=Bool) ())
  (fun i s hi=>by
   unfold zU8
   have h3:0≤(i:Int)∧(i:Int) < (l.length:Int):=by omega
   simp only [h3.1,h3.2,and_self,zm3,decide_true,if_true,Int.toNat_natCast,zc4 i (by omega),Option.map_some,decide_eq_true_eq]
   split <;> rfl)
  (fun s=>by unfold zU8; simp) ()
 rw [show (0:Int)=(fun (i:Nat) (_:Unit)=>(i:Int)) 0 () from rfl,key]
 have fold:∀ (l:List Proc) (i:Nat),walk (fun _ x (_:Unit)=>some (if x=p then .inr (Sum.inr true) else .inl ())) (fun _=>Sum.inl (β:=Bool) ()) l i ()=some (if p ∈ l then .inr true else .inl ()):=by
  intro l
  induction l with
  | nil=>intro i; simp [walk]
  | cons x t ih =>
   intro i
   simp only [walk]
   by_cases e:x=p
   ·subst e; simp
   ·simp only [e,if_false,List.mem_cons,fun h:p=x=>e h.symm,false_or]
    rw [ih]
    have:¬ p=x:=fun h=>e h.symm
    simp [this]
 rw [fold]
 by_cases hp:p ∈ l <;> simp [hp,zaq9]
theorem zbP3 (q:Queue) (h1:q.converts.length≤1000) (h2:q.waits.length≤1000):zs0 q=some ((ordQ q).map (·.proc)):=by
 unfold zs0
 rw [zbe8 q (by omega) (by omega),Option.bind_some]
 have hl:(q.converts++q.waits).length≤2000:=by rw [List.length_append]; omega
 show _=some ((q.converts++q.waits).map (·.proc))
 generalize q.converts++q.waits=l at hl
 have key:=zC3 (body:=zac7 l) l Wait.zero (fun i (s:List Proc)=>((i:Int),s)) (fun i h s=>some (.inl (zaE1 s (some h.proc)))) (fun s=>s) (fun i s=>s.length≤i)
  (fun i s hi hs=>by
   refine ⟨?_,fun s' h=>?_⟩
   ·unfold zac7
    have h1:s.length+1≤4294967296:=by omega
    have h3:0≤(i:Int)∧(i:Int) < (l.length:Int):=by omega
    simp only [h1,h3.1,h3.2,and_self,zm3,decide_true,if_true,Int.toNat_natCast,zc4 i (by omega),Option.map_some,wmap,zaE1]
   ·simp only [Option.some.injEq,Sum.inl.injEq] at h; subst h; simp [zaE1]; omega)
  (fun s hs=>by unfold zac7; simp) [] (by simp)
 rw [show ((0,[]):Int×List Proc)=(fun (i:Nat) (s:List Proc)=>((i:Int),s)) 0 [] from rfl,key,zaH6 (fun h:Wait=>some h.proc)]
 simp [zay6]
theorem zbo6 (l:List Hold) (hl:l.length≤1000000):ze3 l=some (l.map (·.proc)):=by
 have e:ze3 l=zh9 l:=rfl
 rw [e]; exact zdb2 l hl
def zak8 (q:Queue):List Proc:=zbf2 (q.holds.map (·.proc)++(ordQ q).map (·.proc))
theorem zbP4 (q:Queue) (h0:q.holds.length≤1000) (h1:q.converts.length≤1000) (h2:q.waits.length≤1000):zw1 q=some (zak8 q):=by
 unfold zw1 zak8
 have hl:(ordQ q).length≤2000:=by unfold ordQ; rw [List.length_append]; omega
 rw [zbo6 _ (by omega),Option.bind_some,zbP3 q h1 h2,Option.bind_some,zg7 (by simp; omega),zar8 _ (by simp; omega)]
 rfl
theorem zbP5 {q:Queue} (h:SoundP q) {p:Proc}:p ∈ zak8 q ↔ hasQ q p=true:=by
 unfold zak8
 rw [zaA1,List.mem_append,zdm4 h,or_comm]
theorem SoundP.lens {q:Queue} (h:SoundP q):q.holds.length≤8∧q.converts.length≤8∧q.waits.length≤8∧zae4 q≤16:=by
 have:=h.cl; have:=h.wl; have:=zak4 h.hv
 unfold zae4; omega
theorem zbV9 {q:Queue} (h:SoundP q):zk0 q=!canQ q:=by
 unfold zk0
 rw [(zbo3 q).2 h,Bool.true_and]; rfl
theorem zby5 (g:Queue×List Hold) (hs:SoundP g.1) (hg:g.2.length≤1000000):zN9 g=some (if canQ g.1=true then .inl (zbs6 g) else .inr g):=by
 unfold zN9
 rw [zaT0,Option.bind_some,zbV9 hs]
 cases hc:canQ g.1 with
 | false=>simp
 | true =>
  obtain ⟨h1,_,hl⟩:=zaH7 hc
  rw [if_pos (by simp),zbl3,Option.bind_some,if_pos rfl]
  unfold zbs6 popQ
  by_cases h0:0 < g.1.converts.length
  ·rw [if_pos (by simpa using h0),zg7 (by omega),if_pos h0]
   unfold zV4
   rw [zax1 _ _ _ (by simp only; omega),Option.bind_some,zg7 (by omega)]
  ·rw [if_neg (by simpa using h0),if_neg h0]
   have hw:0 < g.1.waits.length:=by unfold zae4 at h1; omega
   rw [zg7 (by omega)]
   unfold zV4
   rw [zax1 _ _ _ (by simp only; omega),Option.bind_some,zg7 (by omega)]
theorem zby6 {q:Queue} (h:SoundP q):zL2 q=some (advS q,advG q):=by
 unfold zL2
 have hl:=h.lens
 rw [zaK2,Option.bind_some,(zbo3 q).2 h,if_neg (by decide),zaB5 q (by omega) (by omega) (by omega),Option.bind_some]
 have key:=zco0 (body:=zN9) (fun g=>SoundP g.1∧zae4 g.1+g.2.length≤1000) (fun g=>zae4 g.1) (fun g=>advN (zae4 g.1) g) (fun g hg=>by
  rw [zby5 g hg.1 (by omega)]
  cases hc:canQ g.1 with
  | false=>right; rw [if_neg (by decide),zby0,if_neg (by rw [hc]; decide)]
  | true =>
   left
   obtain ⟨h1,h2,_⟩:=zaH7 hc
   refine ⟨zbs6 g,by rw [if_pos rfl],⟨hg.1.pop hc,?_⟩,?_,?_⟩
   ·unfold zbs6; simp only [List.length_append,List.length_cons,List.length_nil]; omega
   ·show zae4 (popQ g.1) < zae4 g.1; omega
   ·rw [zby0 g,if_pos hc]) (q,[]) ⟨h,by simp only [List.length_nil]; omega⟩
 rw [key]
 rfl
theorem zae6 {q:Queue} (h:SoundP q):zA9 q=some (zK3 q):=by
 unfold zA9; rw [zby6 h,Option.bind_some,zdm1]; rfl
theorem zdc2 (p:Proc) (pr:Int):(((!(zb6 p))||(decide (pr < 0)))||(decide (7 < pr)))=!zbl5 p pr:=by
 unfold zbl5
 generalize zb6 p=b
 rw [Bool.eq_iff_iff]
 cases b
 ·simp
 ·simp
theorem zbP6 (q:Queue) (p:Proc) (a:Amount) (pr:Int):zI6 q p a pr=some (zW2 q p a pr):=by
 unfold zI6 zW2
 rw [zak7,Option.bind_some]
 cases h1:zk0 q with
 | false=>rfl
 | true =>
  obtain ⟨hs,hcan⟩:=(zx5 q).1 h1
  have hl:=hs.lens
  rw [ifNT,ifTF,zax2,zdc2]
  cases h2:zbl5 p pr with
  | false=>rfl
  | true =>
   rw [ifNT,ifTF,zaO0]
   cases h3:zb3 q.resource a with
   | false=>rfl
   | true =>
    rw [ifNT,ifTF,zL4 q p (by omega) (by omega),Option.bind_some]
    cases h4:(zA5 q p).2 with
    | true=>rfl
    | false =>
     rw [ifFT,ifFT,zbF3 q (by omega) (by omega) (by omega),Option.bind_some,zG0 q p (by omega),Option.bind_some]
     have hcv:zs9 q.resource (getH q.holds p) a=covA q.resource (getH q.holds p) a:=rfl
     rw [hcv]
     cases h5:covA q.resource (getH q.holds p) a with
     | true=>rfl
     | false =>
      rw [ifFT,ifFT,zaB4]
      by_cases h6:getH q.holds p=Amount.zero
      ·rw [if_neg (by rw [(zah5 _).2 h6]; decide),if_neg (show ¬ getH q.holds p≠Amount.zero from fun k=>k h6),zf6 (by omega) (by omega)]
       by_cases h7:8≤q.holds.length+q.waits.length
       ·rw [if_pos (by simp; omega),if_pos h7]; rfl
       ·rw [if_neg (by simp; omega),if_neg h7,zbF0,Option.bind_some]
        have hi:=zdm3 hs h3 h2 h4 (p:=p) (a:=a) (pr:=pr) (by omega)
        have e:({ Wait.zero with proc:=p,amount:=a,priority:=pr }:Wait)=⟨p,a,pr,0⟩:=rfl
        rw [e,hi,if_neg (by simp)]
        have hsc:=hs.claimW h3 h2 h4 h6 (by omega) (p:=p) (a:=a) (pr:=pr)
        have hq:(⟨(⟨q.resource.name,q.resource.kind,q.resource.units,q.resource.home⟩:Resource),q.holds,q.converts,(claimW q p a pr).waits,q.gen⟩:Queue)=claimW q p a pr:=rfl
        simp only [hq]
        rw [zae6 hsc]; rfl
      ·rw [if_pos (by rw [(zap5 _).2 h6]; rfl),if_pos h6]
       have hsc:=hs.claimC h3 h4 h5 h6
       rw [zbl4,Option.bind_some,zg7 (by omega)]
       have hq:(⟨(⟨q.resource.name,q.resource.kind,q.resource.units,q.resource.home⟩:Resource),q.holds,q.converts++[{ Wait.zero with proc:=p,amount:=zat6 q.resource (getH q.holds p) a }],q.waits,q.gen⟩:Queue)=claimC q p a:=rfl
       rw [hq,zae6 hsc]; rfl
theorem zbF4 (q:Queue) (p:Proc):zV5 q p=some (zF1 q p):=by
 unfold zV5 zF1
 rw [zak7,Option.bind_some]
 cases h1:zk0 q with
 | false=>rfl
 | true =>
  obtain ⟨hs,hcan⟩:=(zx5 q).1 h1
  have hl:=hs.lens
  rw [ifNT,ifTF,zL4 q p (by omega) (by omega),Option.bind_some]
  cases h4:(zA5 q p).2 with
  | false=>rfl
  | true =>
   rw [ifNT,ifTF,zaB5 q (by omega) (by omega) (by omega),Option.bind_some,zaq6 _ _ (by omega),Option.bind_some,zaq6 _ _ (by simp only; omega),Option.bind_some]
   have hq:({ { q with converts:=rmL q.converts p } with waits:=rmL q.waits p }:Queue)=zaB6 q p:=rfl
   simp only [hq]
   rw [zae6 (hs.cancel p)]; rfl
theorem zbP7 (q:Queue) (p:Proc) (a:Amount):zaa5 q p a=some (zC8 q p a):=by
 unfold zaa5 zC8
 rw [zak7,Option.bind_some]
 cases h1:zk0 q with
 | false=>rfl
 | true =>
  obtain ⟨hs,hcan⟩:=(zx5 q).1 h1
  have hl:=hs.lens
  rw [ifNT,ifTF,zG0 q p (by omega),Option.bind_some,zaB4]
  by_cases h6:getH q.holds p=Amount.zero
  ·rw [if_pos ((zah5 _).2 h6),if_pos h6]; rfl
  ·rw [if_neg (by rw [(zap5 _).2 h6]; decide),if_neg h6,zL4 q p (by omega) (by omega),Option.bind_some]
   cases h4:(zA5 q p).2 with
   | true=>rfl
   | false =>
    have hcv:zs9 q.resource (getH q.holds p) a=covA q.resource (getH q.holds p) a:=rfl
    rw [ifFT,ifFT,hcv]
    cases h5:covA q.resource (getH q.holds p) a with
    | false=>rfl
    | true =>
     rw [ifNT,ifTF,zaB5 q (by omega) (by omega) (by omega),Option.bind_some]
     by_cases h7:getH q.holds p=a
     ·rw [if_pos (by simp [h7]),if_pos h7]
     ·rw [if_neg (by simpa using h7),if_neg h7,zax1 _ _ _ (by omega),Option.bind_some]
      have hq:({ q with holds:=setL q.holds p a }:Queue)=zaF7 q p a:=rfl
      simp only [hq]
      rw [zae6 (hs.lower h4 h6 h5)]; rfl
theorem zbt0 (q:Queue) (p:Proc) (h0:q.holds.length≤1000000) (h1:q.converts.length≤1000000) (h2:q.waits.length≤1000000):zs7 q p=some (hasQ q p):=by
 unfold zs7 hasQ
 rw [zL4 q p h1 h2,Option.bind_some,zG0 q p (by omega)]
 cases h:(zA5 q p).2 <;> simp [zaB4]
theorem zbF5 (q:Queue) (p:Proc):zV7 q p=some (zG4 q p):=by
 unfold zV7 zG4
 rw [zak7,Option.bind_some]
 cases h1:zk0 q with
 | false=>rfl
 | true =>
  obtain ⟨hs,hcan⟩:=(zx5 q).1 h1
  have hl:=hs.lens
  rw [ifNT,ifTF,zbt0 q p (by omega) (by omega) (by omega),Option.bind_some]
  cases h4:hasQ q p with
  | false=>rfl
  | true =>
   rw [ifNT,ifTF,zaB5 q (by omega) (by omega) (by omega),Option.bind_some,zax1 _ _ _ (by omega),Option.bind_some,zaq6 _ _ (by simp only; omega),Option.bind_some,zaq6 _ _ (by simp only; omega),Option.bind_some]
   have hz:setL q.holds p ({ Amount.zero with })=zv7 p q.holds:=if_pos rfl
   have hq:({ { { q with holds:=zv7 p q.holds } with converts:=rmL q.converts p } with waits:=rmL q.waits p }:Queue)=del q p:=rfl
   simp only [hz,hq]
   rw [zae6 (hs.del p)]; rfl
def zbf4 (x:Queue×List Hold×Int):Prop:=x.1.holds.length≤8∧x.1.converts.length≤8∧x.1.waits.length≤8∧x.2.1.length≤16
theorem zbi4 (e:Int):zbf4 (errQ e):=by unfold zbf4 errQ Queue.zero; simp
theorem zap6 {q:Queue} (h:SoundP q):zbf4 (zK3 q):=by
 have h1:=(h.adv).lens
 have h2:=zdb7 q
 have h3:=h.lens
 exact ⟨h1.1,h1.2.1,h1.2.2.1,by show (advG q).length≤16; omega⟩
theorem zbP8 {q:Queue} (h:SoundP q):zbf4 (q,[],0):=by
 have h1:=h.lens
 exact ⟨h1.1,h1.2.1,h1.2.2.1,by simp⟩
theorem zcz0 {q:Queue} {p:Proc} {a:Amount} {pr:Int} (h:(zW2 q p a pr).2.2≠0):∃ e,zW2 q p a pr=errQ e:=by
 unfold zW2 at h ⊢
 split; · exact ⟨_,rfl⟩
 split; · exact ⟨_,rfl⟩
 split; · exact ⟨_,rfl⟩
 split; · exact ⟨_,rfl⟩
 rename_i h1 h2 h3 h4
 rw [if_neg h1,if_neg h2,if_neg h3,if_neg h4] at h
 split
 ·rename_i h5; rw [if_pos h5] at h; exact absurd rfl h
 rename_i h5; rw [if_neg h5] at h
 split
 ·rename_i h6; rw [if_pos h6] at h; exact absurd rfl h
 rename_i h6; rw [if_neg h6] at h
 split
 ·exact ⟨_,rfl⟩
 ·rename_i h7; rw [if_neg h7] at h; exact absurd rfl h
theorem zcp9 {q:Queue} {p:Proc} (h:(zF1 q p).2.2≠0):∃ e,zF1 q p=errQ e:=by
 unfold zF1 at h ⊢
 split; · exact ⟨_,rfl⟩
 split; · exact ⟨_,rfl⟩
 rename_i h1 h2
 rw [if_neg h1,if_neg h2] at h
 exact absurd rfl h
theorem zcq0 {q:Queue} {p:Proc} (h:(zG4 q p).2.2≠0):∃ e,zG4 q p=errQ e:=by
 unfold zG4 at h ⊢
 split; · exact ⟨_,rfl⟩
 split; · exact ⟨_,rfl⟩
 rename_i h1 h2
 rw [if_neg h1,if_neg h2] at h
 exact absurd rfl h
theorem zcz1 {q:Queue} {p:Proc} {a:Amount} (h:(zC8 q p a).2.2≠0):∃ e,zC8 q p a=errQ e:=by
 unfold zC8 at h ⊢
 split; · exact ⟨_,rfl⟩
 split; · exact ⟨_,rfl⟩
 split; · exact ⟨_,rfl⟩
 split; · exact ⟨_,rfl⟩
 rename_i h1 h2 h3 h4
 rw [if_neg h1,if_neg h2,if_neg h3,if_neg h4] at h
 split
 ·rename_i h5; rw [if_pos h5] at h; exact absurd rfl h
 ·rename_i h5; rw [if_neg h5] at h; exact absurd rfl h
theorem zbt1 (q:Queue) (p:Proc) (a:Amount) (pr:Int):zbf4 (zW2 q p a pr):=by
 by_cases h:(zW2 q p a pr).2.2=0
 ·obtain ⟨hs,_,_,_,_,hh⟩:=zbi2 h
  rcases hh with ⟨_,e⟩|⟨_,_,e,hc⟩|⟨_,_,_,e,hc⟩
  ·rw [e]; exact zbP8 hs
  ·rw [e]; exact zap6 hc
  ·rw [e]; exact zap6 hc
 ·obtain ⟨e,he⟩:=zcz0 h; rw [he]; exact zbi4 e
theorem zbl6 (q:Queue) (p:Proc):zbf4 (zF1 q p):=by
 by_cases h:(zF1 q p).2.2=0
 ·obtain ⟨_,_,_,e,hc⟩:=zaK7 h; rw [e]; exact zap6 hc
 ·obtain ⟨e,he⟩:=zcp9 h; rw [he]; exact zbi4 e
theorem zbl7 (q:Queue) (p:Proc):zbf4 (zG4 q p):=by
 by_cases h:(zG4 q p).2.2=0
 ·obtain ⟨_,_,_,e,hc⟩:=zbo4 h; rw [e]; exact zap6 hc
 ·obtain ⟨e,he⟩:=zcq0 h; rw [he]; exact zbi4 e
theorem zaW5 (q:Queue) (p:Proc) (a:Amount):zbf4 (zC8 q p a):=by
 by_cases h:(zC8 q p a).2.2=0
 ·obtain ⟨hs,_,_,_,_,hh⟩:=zaH8 h
  rcases hh with ⟨_,e⟩|⟨_,e,hc⟩
  ·rw [e]; exact zbP8 hs
  ·rw [e]; exact zap6 hc
 ·obtain ⟨e,he⟩:=zcz1 h; rw [he]; exact zbi4 e
theorem zch2 (n m:Int) (h1:1≤m) (h2:m≤1000000):zn6 n m=some (n % m):=by
  unfold zn6
  rw [if_neg (by simp; omega),gdp (by omega)]
  have hlt:n.tmod m < m:=Int.tmod_lt_of_pos n (by omega)
  have hgt:-m < n.tmod m:=by have:=Int.lt_tmod_of_pos n (show 0 < m by omega); omega
  have e:n % m=if n.tmod m < 0 then n.tmod m+m else n.tmod m:=by
    rw [Int.emod_eq_tmod]
    by_cases h3:0≤n∨m ∣ n
    · rw [if_pos h3]
      have:0≤n.tmod m:=by
        rcases h3 with h|h
        · exact Int.tmod_nonneg m h
        · rw [Int.tmod_eq_zero_of_dvd h]; omega
      rw [if_neg (by omega)]; omega
    · rw [if_neg h3]
      simp only [not_or] at h3
      have h5:0≤(-n).tmod m:=Int.tmod_nonneg m (by omega)
      rw [Int.neg_tmod] at h5
      have h6:n.tmod m≠0:=fun h=>h3.2 (Int.dvd_of_tmod_eq_zero h)
      rw [if_pos (by omega)]; omega
  rw [e]
  by_cases hc:n.tmod m < 0
  · rw [if_pos (by simpa using hc),if_pos hc,zf6 (by omega) (by omega)]
  · rw [if_neg (by simpa using hc),if_neg hc]
def zdo8 (n:Int):Proc:=⟨(n % 8) % 4,1,1+(n % 8) / 4⟩
theorem zaW6 (n:Int):zp1 n=some (zdo8 n):=by
  unfold zp1 zdo8
  rw [zch2 n 8 (by decide) (by decide),Option.bind_some]
  have h1:0≤n % 8:=Int.emod_nonneg _ (by decide)
  have h2:n % 8 < 8:=Int.emod_lt_of_pos _ (by decide)
  rw [Int.tmod_eq_emod_of_nonneg h1,Int.tdiv_eq_ediv_of_nonneg h1,zf6 (x:=n % 8 / 4) (by omega) (by omega),zf6 (by omega) (by omega)]
def zdo9 (n:Int):Int:=zX6.getD (n % 8).toNat 0
def amtM (r:Resource) (n:Int):Amount:=if r.kind=1 then ⟨zdo9 n,0⟩ else ⟨0,1+n % r.units⟩
theorem zch3 (n:Int):zq1 n=some (zdo9 n):=by
  unfold zq1
  have hl:(zX6.length:Int)=8:=rfl
  have h1:0≤n % 8:=Int.emod_nonneg _ (by decide)
  have h2:n % 8 < 8:=Int.emod_lt_of_pos _ (by decide)
  rw [hl,zch2 n 8 (by decide) (by decide),Option.bind_some,gdp ⟨h1,h2⟩]
  rfl
theorem zbP9 (r:Resource) (n:Int) (hr:zg3 r=true):zq4 r n=some (amtM r n):=by
  rw [zK0] at hr
  unfold zq4 amtM
  by_cases hk:r.kind=1
  · simp only [hk,decide_true,if_true,zch3,Option.bind_some]; rfl
  · simp only [hk,decide_false,Bool.false_eq_true,if_false]
    rw [zch2 n r.units (by omega) (by omega),Option.bind_some]
    have h1:0≤n % r.units:=Int.emod_nonneg _ (by omega)
    have h2:n % r.units < r.units:=Int.emod_lt_of_pos _ (by omega)
    rw [zf6 (by omega) (by omega)]; rfl
structure TapeOk (t:Tape):Prop where
  len:t.l.length≤1000000
  at_:0≤t.at_∧t.at_≤t.l.length
def zan9 (m:Int) (t:Tape):Int:=if (t.l.length:Int)≤t.at_ then 0 else (t.l.getD t.at_.toNat 0) % m
def zQ1 (t:Tape):Tape:=if (t.l.length:Int)≤t.at_ then t else { t with at_:=t.at_+1 }
theorem zaW7 (m:Int) (t:Tape) (ht:TapeOk t) (h1:1≤m) (h2:m≤1000000):zb4 m t=some (zan9 m t,zQ1 t):=by
  unfold zb4 zan9 zQ1
  have hl:=ht.len; have ha:=ht.at_
  by_cases h:(t.l.length:Int)≤t.at_
  · simp only [h,decide_true,if_true]
  · simp only [h,decide_false,Bool.false_eq_true,if_false]
    have w1:IntKind.i64.wrap (t.at_+1)=t.at_+1:=zf6 (by omega) (by omega)
    have w2:IntKind.i64.wrap (t.at_+1 - 1)=t.at_:=by rw [zf6 (by omega) (by omega)]; omega
    simp only [w1,w2]
    rw [gdp (by omega),zch2 _ m h1 h2]
    rfl
theorem zax3 {t:Tape} (h:TapeOk t):TapeOk (zQ1 t):=by
  unfold zQ1
  split
  · exact h
  · have:=h.at_; exact ⟨h.len,by simp only; omega⟩
theorem zcG7 (t:Tape):(zQ1 t).l=t.l:=by unfold zQ1; split <;> rfl
theorem zaE5 (m:Int) (t:Tape) (h1:1≤m):0≤zan9 m t∧zan9 m t < m:=by
  unfold zan9
  split
  · omega
  · exact ⟨Int.emod_nonneg _ (by omega),Int.emod_lt_of_pos _ (by omega)⟩
def zaT5:Nat→Tape→Tape
  | 0,t=>t
  | n+1,t=>zaT5 n (zQ1 t)
def catL (t:Tape):List Resource :=
  [⟨⟨#[97]⟩,1,1,zan9 4 t⟩,⟨⟨#[98]⟩,1,1,zan9 4 (zQ1 t)⟩,⟨⟨#[99]⟩,1,1,zan9 4 (zaT5 2 t)⟩,⟨⟨#[100]⟩,1,1,zan9 4 (zaT5 3 t)⟩,
   ⟨⟨#[112]⟩,2,1+zan9 8 (zaT5 4 t),zan9 4 (zaT5 5 t)⟩,⟨⟨#[113]⟩,2,1+zan9 3 (zaT5 6 t),zan9 4 (zaT5 7 t)⟩]
theorem zcz2 (t:Tape) (ht:TapeOk t):zk3 t=some (catL t,zaT5 8 t):=by
  unfold zk3
  have hlit:(zs3.length:Int)=4:=rfl
  have step:∀ (i:Nat) (u:Tape) (l:List Resource),i < 4→TapeOk u→l.length≤10→zK6 ((i:Int),u,l)=some (.inl ((i:Int)+1,zQ1 u,l++[⟨zs3.getD i (⟨#[]⟩),1,1,zan9 4 u⟩])):=by
    intro i u l hi hu hl
    unfold zK6
    have h1:(i:Int) < 4:=by omega
    have h0:0≤(i:Int):=by omega
    simp only [hlit,h1,h0,and_self,zm3,decide_true,if_true]
    rw [zaW7 4 u hu (by decide) (by decide),Option.bind_some,gdp (by omega),zf6 (by omega) (by omega)]
    simp only [Int.toNat_natCast]
  have s0:=step 0 t [] (by decide) ht (by simp)
  have o1:=zax3 ht
  have s1:=step 1 (zQ1 t) [⟨zs3.getD 0 (⟨#[]⟩),1,1,zan9 4 t⟩] (by decide) o1 (by simp)
  have o2:=zax3 o1
  have s2:=step 2 (zQ1 (zQ1 t)) ([⟨zs3.getD 0 (⟨#[]⟩),1,1,zan9 4 t⟩]++[⟨zs3.getD 1 (⟨#[]⟩),1,1,zan9 4 (zQ1 t)⟩]) (by decide) o2 (by simp)
  have o3:=zax3 o2
  have s3:=step 3 (zQ1 (zQ1 (zQ1 t))) ([⟨zs3.getD 0 (⟨#[]⟩),1,1,zan9 4 t⟩]++[⟨zs3.getD 1 (⟨#[]⟩),1,1,zan9 4 (zQ1 t)⟩]++[⟨zs3.getD 2 (⟨#[]⟩),1,1,zan9 4 (zQ1 (zQ1 t))⟩]) (by decide) o3 (by simp)
  have o4:=zax3 o3
  have s4:∀ u l,zK6 ((4:Int),u,l)=some (.inr (u,l)):=fun u l=>by unfold zK6; simp [hlit]
  rw [zg1,show ((0:Int),t,([]:List Resource))=(((0:Nat):Int),t,[]) from rfl,s0]
  simp only [List.nil_append]
  rw [zg1,show ((0:Nat):Int)+1=((1:Nat):Int) from rfl,s1]
  simp only
  rw [zg1,show ((1:Nat):Int)+1=((2:Nat):Int) from rfl,s2]
  simp only
  rw [zg1,show ((2:Nat):Int)+1=((3:Nat):Int) from rfl,s3]
  simp only
  rw [zg1,show ((3:Nat):Int)+1=(4:Int) from rfl,s4]
  simp only [Option.bind_some]
  unfold zao4
  have o5:=zax3 o4; have o6:=zax3 o5; have o7:=zax3 o6
  have w8:=zaE5 8 (zQ1 (zQ1 (zQ1 (zQ1 t)))) (by decide)
  have w3:=zaE5 3 (zQ1 (zQ1 (zQ1 (zQ1 (zQ1 (zQ1 t)))))) (by decide)
  simp only
  rw [zaW7 8 _ o4 (by decide) (by decide),Option.bind_some]
  simp only
  rw [zaW7 4 _ o5 (by decide) (by decide),Option.bind_some,gdp (by simp)]
  simp only
  rw [zaW7 3 _ o6 (by decide) (by decide),Option.bind_some]
  simp only
  rw [zaW7 4 _ o7 (by decide) (by decide),Option.bind_some,gdp (by simp)]
  simp only
  rw [zf6 (x:=1+zan9 8 _) (by omega) (by omega),zf6 (x:=1+zan9 3 _) (by omega) (by omega)]
  rfl
theorem zcq1 (t:Tape):∀ r ∈ catL t,zg3 r=true:=by
  intro r hr
  have w8:=zaE5 8 (zaT5 4 t) (by decide)
  have w3:=zaE5 3 (zaT5 6 t) (by decide)
  unfold catL at hr
  simp only [List.mem_cons,List.not_mem_nil,or_false] at hr
  rw [zK0]
  rcases hr with rfl|rfl|rfl|rfl|rfl|rfl
  · exact .inl ⟨rfl,rfl⟩
  · exact .inl ⟨rfl,rfl⟩
  · exact .inl ⟨rfl,rfl⟩
  · exact .inl ⟨rfl,rfl⟩
  · exact .inr ⟨rfl,by simp only; omega,by simp only; omega⟩
  · exact .inr ⟨rfl,by simp only; omega,by simp only; omega⟩
def zdc3 (r:Resource):Queue:={ Queue.zero with resource:=r }
theorem zcz3 {r:Resource} (h:resV r=true):zg3 r=true:=by
 unfold resV at h; simp only [Bool.and_eq_true] at h; exact h.2.1
theorem zbQ0 {q:Queue} (h:zk0 q=true):zg3 q.resource=true:=zcz3 ((zx5 q).1 h).1.res
theorem zca5 {α:Type} {l:List α} {i:Nat} {z:α} (h:i < l.length):l.take (i+1)=l.take i++[l.getD i z]:=by
 rw [List.take_succ_eq_append_getElem h,List.getD_eq_getElem?_getD,List.getElem?_eq_getElem h]; rfl
theorem zag4 {q:Queue} (h:zk0 q=true):q.holds.length≤8∧q.converts.length≤8∧q.waits.length≤8∧zae4 q≤16:=((zx5 q).1 h).1.lens
theorem zcq2 {q:Queue} (h:zk0 q=true) {p:Proc} (hp:hasQ q p=true):(zG4 q p).2.2=0∧(zG4 q p).1=remN q p:=by
 have e:=zbo5 h hp
 have h0:(zG4 q p).2.2=0:=by rw [e]; rfl
 refine ⟨h0,?_⟩
 unfold remN; rw [if_pos h0]
theorem zca6:∀ x:List UInt8,Op.bytesLess x x=false
 | []=>rfl
 | a :: x=>by simp [Op.bytesLess,zca6 x]
theorem zcq3:∀ {x y z:List UInt8},Op.bytesLess x y=true→Op.bytesLess y z=true→Op.bytesLess x z=true
 | x,[],z,h1,_=>by cases x <;> simp [Op.bytesLess] at h1
 | x,b :: y,[],_,h2=>by simp [Op.bytesLess] at h2
 | [],b :: y,c :: z,_,_=>by simp [Op.bytesLess]
 | a :: x,b :: y,c :: z,h1,h2=>by
  simp only [Op.bytesLess,Bool.or_eq_true,Bool.and_eq_true,decide_eq_true_eq,beq_iff_eq] at h1 h2 ⊢
  rcases h1 with h1|⟨rfl,h1⟩
  ·rcases h2 with h2|⟨rfl,h2⟩
   ·exact .inl (UInt8.lt_trans h1 h2)
   ·exact .inl h1
  ·rcases h2 with h2|⟨rfl,h2⟩
   ·exact .inl h2
   ·exact .inr ⟨rfl,zcq3 h1 h2⟩
def ltN (a b:ByteArray):Prop:=Op.bytesLess a.toList b.toList=true
instance (a b:ByteArray):Decidable (ltN a b):=by unfold ltN; infer_instance
theorem zdc4 {a b:ByteArray} (h:ltN a b):a≠b:=fun e=>by
 unfold ltN at h; rw [e,zca6] at h; cases h
theorem zca7 {a b c:ByteArray} (h:ltN a b) (k:ltN b c):ltN a c:=zcq3 h k
def AscN (t:List Queue):Prop:=t.Pairwise fun a b=>ltN a.resource.name b.resource.name
def ascW:List Queue→Option ByteArray→Bool
 | [],_=>true
 | q :: t,pv=>zk0 q&&((match pv with|none=>true|some n=>decide (ltN n q.resource.name))&&ascW t (some q.resource.name))
theorem zcq4:∀ (t:List Queue) (pv:Option ByteArray),ascW t pv=true ↔ (∀ q ∈ t,zk0 q=true)∧AscN t∧∀ n,pv=some n→∀ q ∈ t,ltN n q.resource.name
 | [],pv=>by
  simp only [ascW,List.not_mem_nil,false_implies,implies_true,and_true,true_and,true_iff]
  exact .nil
 | q :: t,pv=>by
  simp only [ascW,Bool.and_eq_true]
  rw [zcq4 t (some q.resource.name)]
  constructor
  ·rintro ⟨h1,h2,h3,h4,h5⟩
   refine ⟨fun x hx=>?_,List.pairwise_cons.2 ⟨fun x hx=>h5 _ rfl x hx,h4⟩,fun n hn x hx=>?_⟩
   ·rcases List.mem_cons.1 hx with rfl|hx
    ·exact h1
    ·exact h3 x hx
   ·subst hn
    simp only [decide_eq_true_eq] at h2
    rcases List.mem_cons.1 hx with rfl|hx
    ·exact h2
    ·exact zca7 h2 (h5 _ rfl x hx)
  ·rintro ⟨h1,h2,h3⟩
   have h2':=List.pairwise_cons.1 h2
   refine ⟨h1 q (.head _),?_,fun x hx=>h1 x (.tail _ hx),h2'.2,fun n hn x hx=>by cases hn; exact h2'.1 x hx⟩
   cases pv with
   | none=>rfl
   | some n=>exact decide_eq_true (h3 n rfl q (.head _))
def zak9 (t:List Queue):Bool:=decide (t.length≤8)&&ascW t none
def zC2 (t:List Queue):List Proc:=zbf2 (t.flatMap zak8)
def zaF8 (t:List Queue):Bool:=zak9 t&&decide ((zC2 t).length≤8)
structure ValidT (t:List Queue):Prop where
 len:t.length≤8
 each:∀ q ∈ t,zk0 q=true
 asc:AscN t
 procs:(zC2 t).length≤8
theorem zal0 (t:List Queue):zak9 t=true ↔ t.length≤8∧(∀ q ∈ t,zk0 q=true)∧AscN t:=by
 unfold zak9
 rw [Bool.and_eq_true,decide_eq_true_eq,zcq4]
 simp
theorem zag5 (t:List Queue):zaF8 t=true ↔ ValidT t:=by
 unfold zaF8
 rw [Bool.and_eq_true,decide_eq_true_eq,zal0]
 exact ⟨fun ⟨⟨h1,h2,h3⟩,h4⟩=>⟨h1,h2,h3,h4⟩,fun ⟨h1,h2,h3,h4⟩=>⟨⟨h1,h2,h3⟩,h4⟩⟩
theorem zca8 {α:Type} (prev t:List α) (z:α) (h:prev≠[]):(prev++t).getD (prev.length - 1) z=prev.getLast h:=by
 have hp:0 < prev.length:=List.length_pos_iff.2 h
 rw [List.getD_eq_getElem?_getD,List.getElem?_append_left (by omega),List.getElem?_eq_getElem (by omega),List.getLast_eq_getElem]; rfl
theorem zcz4 (t0:List Queue):∀ (t prev:List Queue),t0=prev++t →
  walk (fun i q (_:Unit)=>some (if zk0 q=true∧(i=0∨ltN (t0.getD (i - 1) Queue.zero).resource.name q.resource.name) then Sum.inl () else Sum.inr (Sum.inr (α:=Unit) false))) (fun _=>Sum.inl (β:=Bool) ()) t prev.length () =
   some (if ascW t (prev.getLast?.map (·.resource.name))=true then .inl () else .inr false):=by
 intro t
 induction t with
 | nil=>intro prev _; simp [walk,ascW]
 | cons q t ih =>
  intro prev ht
  simp only [walk]
  have hq:(prev.length=0∨ltN (t0.getD (prev.length - 1) Queue.zero).resource.name q.resource.name) ↔ (match prev.getLast?.map (·.resource.name) with|none=>true|some n=>decide (ltN n q.resource.name))=true:=by
   by_cases hp:prev=[]
   ·subst hp; simp
   ·have h1:=zca8 prev (q :: t) Queue.zero hp
    rw [ht,h1,List.getLast?_eq_some_getLast hp]
    have:prev.length≠0:=fun e=>hp (List.eq_nil_of_length_eq_zero e)
    simp [this]
  by_cases e:zk0 q=true∧(prev.length=0∨ltN (t0.getD (prev.length - 1) Queue.zero).resource.name q.resource.name)
  ·rw [if_pos e]
   have:=ih (prev++[q]) (by rw [ht]; simp)
   rw [show (prev++[q]).length=prev.length+1 by simp] at this
   simp only
   have h2:ascW (q :: t) (prev.getLast?.map (·.resource.name))=ascW t (some q.resource.name):=by simp only [ascW,e.1,hq.1 e.2,Bool.true_and]
   rw [this,h2]
   simp
  ·rw [if_neg e]
   rw [hq] at e
   have hf:ascW (q :: t) (prev.getLast?.map (·.resource.name))=false:=by
    rw [Bool.eq_false_iff]
    intro hh
    simp only [ascW,Bool.and_eq_true] at hh
    exact e ⟨hh.1,hh.2.1⟩
   rw [hf]; rfl
theorem zbQ1 {body:Int→Option (Int⊕(Unit⊕Bool))} (t:List Queue) (hl:t.length≤8)
  (hb:∀ i:Nat,i < t.length→body (i:Int)=some (if zk0 (t.getD i Queue.zero)=true∧(i=0∨ltN (t.getD (i - 1) Queue.zero).resource.name (t.getD i Queue.zero).resource.name) then .inl ((i+1:Nat):Int) else .inr (.inr false)))
  (he:body (t.length:Int)=some (.inr (.inl ()))):zc0 body 0=some (if ascW t none=true then .inl () else .inr false):=by
 have key:=zak3 (body:=body) t Queue.zero (fun i (_:Unit)=>(i:Int)) (fun i q _=>some (if zk0 q=true∧(i=0∨ltN (t.getD (i - 1) Queue.zero).resource.name q.resource.name) then Sum.inl () else Sum.inr (Sum.inr (α:=Unit) false))) (fun _=>Sum.inl (β:=Bool) ())
  (fun i s hi=>by
   rw [hb i hi,Option.map_some]
   split <;> rfl) (fun s=>he) ()
 have:=zcz4 t t [] rfl
 rw [show (0:Int)=(fun (i:Nat) (_:Unit)=>(i:Int)) 0 () from rfl,key]
 exact this
theorem zbt2 (t:List Queue) (h:∀ q ∈ t,zk0 q=true):(t.flatMap zak8).length≤24 * t.length:=by
 induction t with
 | nil=>simp
 | cons q t ih =>
  have h1:=zag4 (h q (.head _))
  have h2:=zbi3 (q.holds.map (·.proc)++(ordQ q).map (·.proc))
  have h3:=ih fun x hx=>h x (.tail _ hx)
  have h4:(zak8 q).length≤24:=by
   unfold zak8
   unfold ordQ at *
   simp only [List.length_append,List.length_map] at h2
   omega
  rw [List.flatMap_cons,List.length_append,List.length_cons]; omega
theorem zbQ2 {α β X:Type} (f:α→List β) (fin:List β→X):∀ (l:List α) (i:Nat) (s:List β),walk (fun _ a s=>some (.inl (s++f a))) fin l i s=some (fin (s++l.flatMap f))
 | [],i,s=>by simp [walk]
 | a :: l,i,s=>by
  simp only [walk,List.flatMap_cons]
  rw [zbQ2 f fin l (i+1),List.append_assoc]
theorem zj8 {α:Type} {l:List α} {i:Nat} {z:α} (h:i < l.length):l.getD i z ∈ l:=by
 rw [List.getD_eq_getElem?_getD,List.getElem?_eq_getElem h]; exact List.getElem_mem h
theorem zca9 {q:Queue} (h:zk0 q=true):(zak8 q).length≤24:=by
 have:=zbt2 [q] fun x hx=>by rw [List.mem_singleton] at hx; rw [hx]; exact h
 simpa using this
theorem zbQ3 {t:List Queue} (hl:t.length≤8) (h:∀ q ∈ t,zk0 q=true):zB1 t=some (zC2 t):=by
 unfold zB1
 have key:=zC3 (body:=zad7 t) t Queue.zero (fun i (s:List Proc)=>((i:Int),s)) (fun _ q s=>some (.inl (s++zak8 q))) (fun s=>s) (fun i s=>s.length≤24 * i)
  (fun i s hi hs=>by
   have hq:=h _ (zj8 (z:=Queue.zero) hi)
   have hql:=zag4 hq
   have hpl:=zca9 hq
   refine ⟨?_,fun s' h=>?_⟩
   ·unfold zad7
    have h3:0≤(i:Int)∧(i:Int) < (t.length:Int):=by omega
    simp only [h3.1,h3.2,and_self,zm3,decide_true,if_true,Int.toNat_natCast]
    rw [zbP4 _ (by omega) (by omega) (by omega),Option.bind_some,zg7 (by omega),zc4 i (by omega)]
    rfl
   ·simp only [Option.some.injEq,Sum.inl.injEq] at h; subst h; rw [List.length_append]; omega)
  (fun s hs=>by unfold zad7; simp) [] (by simp)
 rw [show ((0,[]):Int×List Proc)=(fun (i:Nat) (s:List Proc)=>((i:Int),s)) 0 [] from rfl,key,zbQ2 zak8,List.nil_append,Option.bind_some]
 unfold zaz1
 have:=zbt2 t h
 rw [zar8 _ (by omega)]; rfl
theorem zbi5 {α:Type} (l:List α) (z:α) (p:α→Bool) {body:Int→Option (Int⊕(Unit⊕Int))} (hb:∀ i:Nat,i < l.length→body (i:Int)=some (if p (l.getD i z)=true then .inr (.inr (i:Int)) else .inl ((i+1:Nat):Int)))
  (he:body (l.length:Int)=some (.inr (.inl ()))):zc0 body 0=some (match l.findIdx? p with|some i=>.inr (i:Int)|none=>.inl ()):=by
 have key:=zak3 (body:=body) l z (fun i (_:Unit)=>(i:Int)) (fun i a _=>some (if p a=true then .inr (Sum.inr (α:=Unit) (i:Int)) else .inl ())) (fun _=>Sum.inl (β:=Int) ())
  (fun i s hi=>by rw [hb i hi,Option.map_some]; split <;> rfl) (fun s=>he) ()
 have fold:∀ (l:List α) (i:Nat),walk (fun i a (_:Unit)=>some (if p a=true then .inr (Sum.inr (α:=Unit) (i:Int)) else .inl ())) (fun _=>Sum.inl (β:=Int) ()) l i ()=some (match l.findIdx? p with|some j=>.inr ((i+j:Nat):Int)|none=>.inl ()):=by
  intro l
  induction l with
  | nil=>intro i; rfl
  | cons a l ih =>
   intro i
   simp only [walk,List.findIdx?_cons]
   by_cases hp:p a=true
   ·simp [hp]
   ·simp only [hp,Bool.false_eq_true,if_false]
    rw [ih (i+1)]
    cases l.findIdx? p with
    | none=>rfl
    | some j=>simp only [Option.map_some]; rw [show i+1+j=i+(j+1) by omega]
 have:=fold l 0
 simp only [Nat.zero_add] at this
 rw [show (0:Int)=(fun (i:Nat) (_:Unit)=>(i:Int)) 0 () from rfl,key]
 exact this
def isN (nm:ByteArray) (q:Queue):Bool:=q.resource.name.toList == nm.toList
theorem zcG8 {nm:ByteArray} {q:Queue}:isN nm q=true ↔ q.resource.name=nm:=by
 unfold isN; rw [beq_iff_eq]; exact zas9
def zz5 (t:List Queue) (nm:ByteArray):Int:=match t.findIdx? (isN nm) with
 | some i=>i
 | none=>-1
theorem zbW0 (t:List Queue) (nm:ByteArray) (hl:t.length≤1000000):zk2 t nm=some (zz5 t nm):=by
 unfold zk2
 rw [zbi5 t Queue.zero (isN nm) (fun i hi=>by
  unfold zah0 isN
  have h3:0≤(i:Int)∧(i:Int) < (t.length:Int):=by omega
  simp only [h3.1,h3.2,and_self,zm3,decide_true,if_true,Int.toNat_natCast,zc4 i (by omega)]
  split <;> rfl) (by unfold zah0; simp)]
 unfold zz5
 cases t.findIdx? (isN nm) <;> rfl
theorem zaL0 {t:List Queue} {nm:ByteArray}:zz5 t nm=-1∨∃ i:Nat,zz5 t nm=i∧i < t.length∧(t.getD i Queue.zero).resource.name=nm:=by
 unfold zz5
 cases h:t.findIdx? (isN nm) with
 | none=>exact .inl rfl
 | some i =>
  right
  obtain ⟨h1,h2,_⟩:=List.findIdx?_eq_some_iff_getElem.1 h
  refine ⟨i,rfl,h1,?_⟩
  rw [List.getD_eq_getElem?_getD,List.getElem?_eq_getElem h1]
  exact zcG8.1 h2
theorem zch4 {t:List Queue} (h:AscN t) {i j:Nat} (hi:i < t.length) (hj:j < t.length) (e:(t.getD i Queue.zero).resource.name=(t.getD j Queue.zero).resource.name):i=j:=by
 have hp:=List.pairwise_iff_getElem.1 h
 have g:∀ k,(hk:k < t.length)→t.getD k Queue.zero=t[k]:=fun k hk=>by rw [List.getD_eq_getElem?_getD,List.getElem?_eq_getElem hk]; rfl
 rw [g i hi,g j hj] at e
 rcases Nat.lt_trichotomy i j with h1|h1|h1
 ·exact absurd e (zdc4 (hp i j hi hj h1))
 ·exact h1
 ·exact absurd e.symm (zdc4 (hp j i hj hi h1))
theorem zbt3 {t:List Queue} (h:AscN t) {i:Nat} (hi:i < t.length):zz5 t (t.getD i Queue.zero).resource.name=i:=by
 rcases zaL0 (t:=t) (nm:=(t.getD i Queue.zero).resource.name) with h1|⟨j,h1,h2,h3⟩
 ·unfold zz5 at h1
  cases hf:t.findIdx? (isN (t.getD i Queue.zero).resource.name) with
  | some k=>rw [hf] at h1; simp only at h1; omega
  | none =>
   have:=List.findIdx?_eq_none_iff.1 hf (t.getD i Queue.zero) (zj8 hi)
   rw [Bool.eq_false_iff] at this
   exact absurd (zcG8.2 rfl) this
 ·rw [h1,zch4 h h2 hi h3]
end Ab
end Go.Proofs.YtcggeefhhegeoaaGreatDoor
