import Derived.Test.YtogpinppgncpmaaGreatDoorMgB
import Derived.Test.YtogpinppgncpmaaGreatDoorHm29
namespace Go.Proofs.YtogpinppgncpmaaGreatDoor
namespace Ab
set_option linter.unusedVariables false
set_option linter.unusedSimpArgs false
structure Split {α:Type} (l a b:List α):Prop where
 fst:a.Sublist l
 snd:b.Sublist l
 all:∀ x ∈ l,x ∈ a∨x ∈ b
theorem Split.nil {α:Type}:Split ([]:List α) [] []:=⟨.slnil,.slnil,fun x h=>nomatch h⟩
theorem Split.both {α:Type} {l a b:List α} (h:Split l a b) (x:α):Split (l++[x]) (a++[x]) (b++[x]):=⟨h.fst.append (.refl _),h.snd.append (.refl _),fun y hy=>by
 rcases cI.1 hy with k|k
 ·exact (h.all y k).imp (dA _) (dA _)
 ·exact .inl (cY _ k)⟩
theorem Split.left {α:Type} {l a b:List α} (h:Split l a b) (x:α):Split (l++[x]) (a++[x]) b:=⟨h.fst.append (.refl _),h.snd.trans (List.sublist_append_left _ _),fun y hy=>by
 rcases cI.1 hy with k|k
 ·exact (h.all y k).imp_left (dA _)
 ·exact .inl (cY _ k)⟩
theorem Split.right {α:Type} {l a b:List α} (h:Split l a b) (x:α):Split (l++[x]) a (b++[x]):=⟨h.fst.trans (List.sublist_append_left _ _),h.snd.append (.refl _),fun y hy=>by
 rcases cI.1 hy with k|k
 ·exact (h.all y k).imp_right (dA _)
 ·exact .inr (cY _ k)⟩
theorem zdr5 {s:aD} (hq:s.aF.length≤8) (by_:List Int) (hb:by_.length≤40):∃ x,zc0 (zE5 s) (0,{ bJ.zero with l:=by_ },⟨[],[]⟩,⟨[],[]⟩)=some x∧TapeOk x.1∧Split s.aF x.2.1.aF x.2.2.aF∧x.2.1.aQ=[]∧x.2.2.aQ=[] :=
 zq3 (body:=zE5 s) (fun g=>∃ k:Nat,g.1=k∧k≤s.aF.length∧TapeOk g.2.1∧Split (s.aF.take k) g.2.2.1.aF g.2.2.2.aF∧g.2.2.1.aQ=[]∧g.2.2.2.aQ=[]) (fun g=>s.aF.length - g.1.toNat)
  (fun x=>TapeOk x.1∧Split s.aF x.2.1.aF x.2.2.aF∧x.2.1.aQ=[]∧x.2.2.aQ=[]) (fun g ⟨k,hg,hk,ht,hs,hn,hm⟩=>by
   obtain ⟨g1,u0,⟨q1,n1⟩,⟨q2,n2⟩⟩:=g
   simp only at hg ht hs hn hm
   subst hg; subst hn; subst hm
   have l1:=hs.fst.length_le; have l2:=hs.snd.length_le
   rw [dB] at l1 l2
   unfold zE5
   simp only [Int.toNat_natCast]
   by_cases c:k < s.aF.length
   ·obtain ⟨v,u,e1,e2⟩:=zbD4 (m:=3) (by decide) (by decide) ht
    have ts:=zA7 aA.zero c
    rw [bV (by simpa using c),e1,Option.bind_some]
    left
    unfold zE4
    simp only [Int.toNat_natCast,zc4 k (show k < 4611686018427387904 by omega)]
    by_cases d:v=1
    ·rw [bU (by simpa using d),bV (by simp [d]),gdp (by omega),gdp (by omega)]
     exact ⟨_,rfl,⟨k+1,rfl,c,e2.ok,by rw [ts]; exact hs.right _,rfl,rfl⟩,by simp only [Int.toNat_natCast]; omega⟩
    ·rw [bV (by simpa using d),gdp (by omega),gdp (by omega)]
     by_cases d0:v=0
     ·rw [bU (by simp [d0])]
      exact ⟨_,rfl,⟨k+1,rfl,c,e2.ok,by rw [ts]; exact hs.left _,rfl,rfl⟩,by simp only [Int.toNat_natCast]; omega⟩
     ·rw [bV (by simpa using d0),gdp (by omega),gdp (by omega)]
      exact ⟨_,rfl,⟨k+1,rfl,c,e2.ok,by rw [ts]; exact hs.both _,rfl,rfl⟩,by simp only [Int.toNat_natCast]; omega⟩
   ·rw [bU (by simpa using c)]
    rw [cX (by omega)] at hs
    exact .inr ⟨_,rfl,ht,hs,rfl,rfl⟩) _ ⟨0,rfl,by omega,⟨by simp only; omega,by simp [bJ.zero]⟩,.nil,rfl,rfl⟩
theorem zdr6 {s:aD} (hq:s.aQ.length≤8) {u:bJ} (hu:TapeOk u) (Q R:List aA):∃ x,zc0 (zE3 s) (0,u,⟨Q,[]⟩,⟨R,[]⟩)=some x∧Split s.aQ x.1.aQ x.2.aQ∧x.1.aF=Q∧x.2.aF=R :=
 zq3 (body:=zE3 s) (fun g=>∃ k:Nat,g.1=k∧k≤s.aQ.length∧TapeOk g.2.1∧Split (s.aQ.take k) g.2.2.1.aQ g.2.2.2.aQ∧g.2.2.1.aF=Q∧g.2.2.2.aF=R) (fun g=>s.aQ.length - g.1.toNat)
  (fun x=>Split s.aQ x.1.aQ x.2.aQ∧x.1.aF=Q∧x.2.aF=R) (fun g ⟨k,hg,hk,ht,hs,hn,hm⟩=>by
   obtain ⟨g1,u0,⟨q1,n1⟩,⟨q2,n2⟩⟩:=g
   simp only at hg ht hs hn hm
   subst hg; subst hn; subst hm
   have l1:=hs.fst.length_le; have l2:=hs.snd.length_le
   rw [dB] at l1 l2
   unfold zE3
   simp only [Int.toNat_natCast]
   by_cases c:k < s.aQ.length
   ·obtain ⟨v,u,e1,e2⟩:=zbD4 (m:=3) (by decide) (by decide) ht
    have ts:=zA7 bC.zero c
    rw [bV (by simpa using c),e1,Option.bind_some]
    left
    unfold zE2
    simp only [Int.toNat_natCast,zc4 k (show k < 4611686018427387904 by omega)]
    by_cases d:v=1
    ·rw [bU (by simpa using d),bV (by simp [d]),gdp (by omega),gdp (by omega)]
     exact ⟨_,rfl,⟨k+1,rfl,c,e2.ok,by rw [ts]; exact hs.right _,rfl,rfl⟩,by simp only [Int.toNat_natCast]; omega⟩
    ·rw [bV (by simpa using d),gdp (by omega),gdp (by omega)]
     by_cases d0:v=0
     ·rw [bU (by simp [d0])]
      exact ⟨_,rfl,⟨k+1,rfl,c,e2.ok,by rw [ts]; exact hs.left _,rfl,rfl⟩,by simp only [Int.toNat_natCast]; omega⟩
     ·rw [bV (by simpa using d0),gdp (by omega),gdp (by omega)]
      exact ⟨_,rfl,⟨k+1,rfl,c,e2.ok,by rw [ts]; exact hs.both _,rfl,rfl⟩,by simp only [Int.toNat_natCast]; omega⟩
   ·rw [bU (by simpa using c)]
    rw [cX (by omega)] at hs
    exact .inr ⟨_,rfl,hs,rfl,rfl⟩) _ ⟨0,rfl,by omega,hu,.nil,rfl,rfl⟩
theorem zbm8 (l by_:List Int):zK2 l by_=some true:=by
 unfold zK2
 by_cases c:((!(zao0 l))||decide (40 < (by_.length:Int)))=true
 ·rw [bV c,zcL6]; rfl
 ·rw [bU c]
  simp only [dQ,cS,bY,kC,eP] at c
  obtain ⟨c1,c2⟩:=c
  obtain ⟨s,h1,h2⟩:=zcT6 (zcR6 c1)
  have ok:=(zaW0 h2).1
  obtain ⟨⟨u,a,b⟩,e1,e2,e3,e4,e5⟩:=zdr5 ok.lq by_ (by omega)
  obtain ⟨qa,na⟩:=a
  obtain ⟨qb,nb⟩:=b
  simp only at e2 e3 e4 e5
  subst e4; subst e5
  obtain ⟨⟨x,y⟩,k1,k2,k3,k4⟩:=zdr6 ok.ln e2 qa qb
  simp only at k2 k3 k4
  have cv:Cover s x y:=⟨by rw [k3]; exact e3.fst,by rw [k4]; exact e3.snd,k2.fst,k2.snd,by rw [k3,k4]; exact e3.all,k2.all⟩
  rw [h1,Option.bind_some,e1,Option.bind_some]
  unfold zM0
  rw [k1,Option.bind_some]
  unfold zL9
  simp only [zcw8 h2 cv,zcw8 h2 cv.symm,zcL6,Option.bind_some,cC,fU,cB,zcT8 ok]
end Ab
end Go.Proofs.YtogpinppgncpmaaGreatDoor
