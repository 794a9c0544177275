import Derived.Test.YtebopmkhhppfaaaGreatDoorWsO
import Derived.Test.YtebopmkhhppfaaaGreatDoorTabB
import Derived.Test.YtebopmkhhppfaaaGreatDoorFlaw16WaitstateDecodes
import Derived.Test.YtebopmkhhppfaaaGreatDoorFlaw16WaitstateEncodes
namespace Go.Proofs.YtebopmkhhppfaaaGreatDoor
namespace Ab
set_option linter.unusedVariables false
set_option linter.unusedSimpArgs false
theorem zay5 {X:Type} {body:Int→Option (Int⊕(Unit⊕X))} (n:Nat) (h:∀ i:Nat,i < n→body (i:Int)=some (.inl ((i:Int)+1))) (he:body (n:Int)=some (.inr (.inl ()))):zb4 body 0=some (.inl ()):=by
 rw [zz6 n (fun _=>none) (Sum.inl ()) (fun i hi=>h i hi) he]
 have:∀ k i,zH4 (fun _:Nat=>(none:Option (Unit⊕X))) k i=none:=by
  intro k
  induction k with
  | zero=>intro i; rfl
  | succ k ih=>intro i; simp only [zH4]; exact ih (i+1)
 rw [this]; rfl
theorem zaM2:∀ (n:Nat) (e:Expr),_root_.SizeOf.sizeOf e < n→zg2 e≤24→zJ2 n e e=some true
 | 0,_,h,_=>by omega
 | n+1,e,h,hn=>by
  show zM9 (zJ2 n) e e=_
  have hl:=zz8 e.kids
  have hne:=zJ3 e
  unfold zM9
  rw [if_neg (by simp),zay5 e.kids.length (fun i hi=>by
   unfold zR0
   have hk:=zY7 (z:=Expr.zero) hi
   rw [if_pos (by simpa using hi),gdp (by omega),gdp (by omega)]
   simp only [Int.toNat_natCast]
   rw [zaM2 n _ (zac6 h hk) (by have:=zay2 hk; omega),Option.bind_some,if_neg (by simp),zc4 (by omega) (by omega)]) (by unfold zR0; simp)]
  rfl
theorem zaI2:∀ (n:Nat) (e:Expr),_root_.SizeOf.sizeOf e < n→zg2 e≤24→zt2 n e e=some true
 | 0,_,h,_=>by omega
 | n+1,e,h,hn=>by
  show zD1 (zt2 n) e e=_
  have hl:=zz8 e.kids
  have hne:=zJ3 e
  unfold zD1
  rw [if_pos (by simp)]
  unfold zd1
  rw [if_neg (by simp),zay5 e.kids.length (fun i hi=>by
   unfold zg4
   have hk:=zY7 (z:=Expr.zero) hi
   rw [if_pos (by simpa using hi),gdp (by omega),gdp (by omega)]
   simp only [Int.toNat_natCast]
   rw [zaI2 n _ (zac6 h hk) (by have:=zay2 hk; omega),Option.bind_some,if_neg (by simp),zc4 (by omega) (by omega)]) (by unfold zg4; simp)]
  show some ((decide (e.k=e.k)&&decide (e.atom=e.atom))&&true)=_
  simp
theorem zbw0 {s:WaitState} (h:OkS s):zK7 s s=some true:=by
 have lq:=h.lq; have ln:=h.ln
 unfold zK7
 rw [zbr1 _ _ (by omega) (fun q hq=>by have:=h.q q hq; have:=this.lh; have:=(h.q q hq).lc; have:=(h.q q hq).lw; omega),Option.bind_some,if_neg (by simp)]
 rw [zay5 s.needs.length (fun i hi=>by
  have hn:=h.n _ (zY7 (z:=Need.zero) hi)
  have hf:=hn.2.2.2
  unfold fitE at hf
  simp only [Bool.and_eq_true,decide_eq_true_eq] at hf
  unfold zad1
  rw [if_pos (by simpa using hi),gdp (by omega),gdp (by omega)]
  simp only [Int.toNat_natCast]
  have:zB1 (s.needs.getD i Need.zero) (s.needs.getD i Need.zero)=some true:=by
   unfold zB1
   rw [if_pos (by simp)]
   unfold zL9
   rw [zaM2 _ _ (Nat.lt_succ_self _) hf.2,Option.bind_some]
   simp
  rw [this,Option.bind_some,if_neg (by simp),zc4 (by omega) (by omega)]) (by unfold zad1; simp)]
 rfl
theorem zbO3:OkS WaitState.zero:=⟨by decide,by decide,(fun q hq=>by cases hq),(fun n hn=>by cases hn)⟩
def zbo3:Atom:=⟨⟨#[97]⟩,{ Amount.zero with mode:=5 }⟩
def zaD0:Expr:={ Expr.zero with atom:=zbo3 }
def zaM3:Proc:=⟨0,1,1⟩
def zam3:Need:=⟨zaM3,zaD0,3⟩
def zz9:WaitState:=⟨[],[zam3]⟩
theorem zfu7:zN6 zaD0.atom.name=true:=by kernel_rfl
theorem zbO4:zg2 zaD0=1:=by rw [zJ3]; show 1+zp4 []=1; rw [zaA9]; rfl
theorem zcB3:zh6 zaD0=1:=by rw [zay1]; show 1+zk2 []=1; rw [zaO4]; rfl
theorem vE_A:vE zaD0=true:=by
 unfold vE fitE
 rw [zbO4,zcB3,(zbv4 zaD0).2 ⟨[zbo3],by rw [zaX8 rfl,if_pos ⟨rfl,zfu7,by decide⟩]; rfl,by decide,List.pairwise_singleton _ _⟩]
 rfl
theorem zaT8:zab9 zz9=true:=by
 unfold zab9
 have h1:zah7 zz9.queues=true:=by decide
 have h2:zaB0 zz9.needs=true:=by
  unfold zaB0
  show (([0]:List Nat).all fun i=>zba7 [zam3] i ([zam3].getD i Need.zero))=true
  simp only [List.all_cons,List.all_nil,Bool.and_true]
  show zba7 [zam3] 0 zam3=true
  unfold zba7
  have:vE zam3.expr=true:=vE_A
  rw [this]
  decide
 have h3:(zbn4 zz9).length≤8:=by
  have:=zaJ3 (zar4 zz9.queues++zz9.needs.map (·.proc))
  have h4:(zar4 zz9.queues++zz9.needs.map (·.proc)).length=1:=rfl
  unfold zbn4
  omega
 rw [h1,h2]
 simp [h3]
 decide
theorem zbA7:zC0=some true:=by
 have hp:zL0 0=some zaM3:=by rw [zbz9]; rfl
 have hE:zl9 zz9=some (encS zz9,0):=by rw [zao1,zaT8]; rfl
 have ok:=(zaI1 zaT8).1
 have hD:zf1 (encS zz9)=some (zz9,0):=by
  rw [zba9 ok (by have:=zbd8 ok; omega),zaT8]; rfl
 have hpl:zr0 zz9.needs zaM3=some 0:=by
  unfold zr0 ze9
  rw [zd2]
  have:zm7 zz9.needs (0,zaM3)=some (.inr (.inr (0,zaM3))):=by
   unfold zm7
   rw [if_pos (by decide),gdp (by decide)]
   unfold zp6
   rw [zab2]
   rfl
  rw [this]
  rfl
 have hN:zw4 zz9 zaM3=some (zam3,true):=by
  unfold zw4
  rw [hpl,Option.bind_some,if_pos (by decide),gdp (by decide)]
  have:zl1 zam3=some zam3:=by
   unfold zl1 zt1
   show (zA8 _ zaD0).bind _=_
   unfold zA8
   rw [zd2]
   unfold zQ4
   rfl
  show (zl1 zam3).bind _=_
  rw [this]
  rfl
 have hG:zp9 zz9 zaM3=some [true]:=by
  unfold zp9
  rw [hpl,Option.bind_some,if_pos (by decide),zN0,zaT8,Option.bind_some,if_neg (by decide),gdp (by decide)]
  have:zv3 zaD0=some [zbo3]:=by
   unfold zv3
   rw [zbn3,vE_A,Option.bind_some,if_neg (by decide)]
   unfold zx1
   show (zF1 _ zaD0).bind _=_
   unfold zF1
   rw [if_pos (by decide)]
   have:ze1 [] zaD0.atom=some false:=by
    unfold ze1 zh1
    rw [zd2]
    unfold zy6
    rfl
   rw [this]
   rfl
  show (zv3 zaD0).bind _=_
  rw [this,Option.bind_some,zd2]
  have hf:zH0 zz9.queues zbo3.name=some (-1):=by
   unfold zH0
   rw [zd2]
   unfold zan6
   rfl
  have h1:zw5 zz9 zaM3 [zbo3] (0,[])=some (.inl (1,[true])):=by
   unfold zw5
   rw [if_pos (by decide),gdp (by decide)]
   show (zH0 zz9.queues zbo3.name).bind _=_
   rw [hf]
   rfl
  have h2:zw5 zz9 zaM3 [zbo3] (1,[true])=some (.inr [true]):=by
   unfold zw5
   rfl
  rw [h1]
  simp only
  rw [zd2,h2]
  rfl
 have hS:zw7 zz9 zz9=some true:=by
  unfold zw7
  have q:zb6 zz9.queues zz9.queues=some true:=by
   unfold zb6
   rw [if_neg (by simp),zay5 0 (fun i hi=>by omega) (by unfold zi7; rfl)]
   rfl
  have n:zc3 zz9.needs zz9.needs=some true:=by
   unfold zc3
   have sn:zo7 zam3 zam3=some true:=by
    unfold zo7
    rw [if_pos (by simp)]
    unfold zB0
    have:zt2 (_root_.SizeOf.sizeOf zam3.expr+1) zam3.expr zam3.expr=some true:=zaI2 _ _ (Nat.lt_succ_self _) (by show zg2 zaD0≤24; rw [zbO4]; decide)
    rw [this,Option.bind_some]
    simp
   rw [if_neg (by simp),zay5 1 (fun i hi=>by
    have:i=0:=by omega
    subst this
    unfold zg5
    rw [if_pos (by decide),gdp (by decide),gdp (by decide)]
    show (zo7 zam3 zam3).bind _=_
    rw [sn]
    rfl) (by unfold zg5; rfl)]
   rfl
  rw [q,Option.bind_some,if_pos rfl,n]
  rfl
 have hP:zj8 zz9=some [zaM3]:=by
  rw [zar9 zz9 (by decide) (by decide)]
  rfl
 unfold zC0
 rw [hp,Option.bind_some]
 show (zl9 zz9).bind _=_
 rw [hE,Option.bind_some]
 simp only [hD,Option.bind_some,hN,hG,decide_true,Bool.and_self,if_true]
 show (zw7 zz9 zz9).bind _=_
 rw [hS,Option.bind_some]
 simp only [Bool.and_self,if_true,zN0,zaT8,Option.bind_some]
 rw [gdp (by simp)]
 simp [hP]
theorem zaI3 {b:List Int} (hb:Src b):zs8 b=some true:=by
 unfold zs8
 have key:∃ s e,zf1 b=some (s,e)∧zu0 b=some (s,e)∧OkS s:=by
  rcases zbF7 hb with ⟨e,h1,h2⟩|⟨s,hs,h1,h2⟩
  ·exact ⟨_,_,h1,h2,zbO3⟩
  ·rw [zN0,Option.bind_some] at h1
   rw [zaH7,Option.bind_some] at h2
   cases hv:zab9 s with
   | false=>rw [hv] at h1 h2; exact ⟨_,_,h1,h2,zbO3⟩
   | true=>rw [hv] at h1 h2; exact ⟨_,_,h1,h2,(zaI1 hv).1⟩
 obtain ⟨s,e,h1,h2,h3⟩:=key
 rw [h1,h2,Option.bind_some,Option.bind_some,zbA7,Option.bind_some]
 simp only [decide_true,Bool.and_self,if_true,zbw0 h3,Option.bind_some]
theorem zcB4 {b:List Int} (o:b.length≤maxLen∧∀ a ∈ b,IntKind.u8.min≤a∧a≤IntKind.u8.max):Src b:=by
 refine ⟨fun x hx=>?_,?_⟩
 ·have h:=o.2 x hx
  have h1:IntKind.u8.min=0:=by decide
  have h2:IntKind.u8.max=255:=by decide
  rw [h1,h2] at h; omega
 ·have h:=o.1
  have h1:maxLen=9223372036854775807:=by decide
  omega
theorem zaE0 (b:List Int) (o:b.length≤maxLen∧∀ a ∈ b,IntKind.u8.min≤a∧a≤IntKind.u8.max):zs8 b=some true :=
 zaI3 (zcB4 o)
theorem zbL2 (s:WaitState):∃ v,zL3 s=some v:=by
 unfold zL3
 by_cases c:((decide (12 < (s.queues.length:Int)))||(decide (12 < (s.needs.length:Int))))=true
 ·rw [if_pos c]; exact ⟨_,rfl⟩
 ·rw [if_neg c]
  simp only [Bool.or_eq_true,decide_eq_true_eq,not_or] at c
  rw [zz6 s.queues.length (fun i=>if 12 < ((s.queues.getD i Queue.zero).holds.length:Int)∨12 < ((s.queues.getD i Queue.zero).converts.length:Int)∨12 < ((s.queues.getD i Queue.zero).waits.length:Int) then some (Sum.inr (α:=Unit) false) else none) (Sum.inl ()) (fun i hi=>by
   unfold zaa7
   have h3:0≤(i:Int)∧(i:Int) < (s.queues.length:Int):=by omega
   simp only [h3.1,h3.2,and_self,implies_true,zx3,decide_true,if_true,Int.toNat_natCast,zc4 (x:=(i:Int)+1) (by omega) (by omega)]
   by_cases d1:12 < ((s.queues.getD i Queue.zero).holds.length:Int) <;> by_cases d2:12 < ((s.queues.getD i Queue.zero).converts.length:Int) <;> by_cases d3:12 < ((s.queues.getD i Queue.zero).waits.length:Int) <;> simp only [d1,d2,d3,decide_true,decide_false,Bool.or_self,Bool.or_true,Bool.true_or,Bool.false_or,if_true,Bool.false_eq_true,if_false,or_self,or_true,true_or,or_false,false_or]) (by unfold zaa7; simp),Option.bind_some]
  generalize (zH4 _ _ _).getD _=z
  cases z with
  | inl z=>exact ⟨_,rfl⟩
  | inr z=>exact ⟨_,rfl⟩
theorem zaE1 (s:WaitState):zz0 s=some true:=by
 unfold zz0
 obtain ⟨v,hv⟩:=zbL2 s
 rw [hv,Option.bind_some]
 cases v with
 | false=>simp only [Bool.not_false,if_true,zbA7,Option.bind_some]
 | true =>
  simp only [Bool.not_true,Bool.false_eq_true,if_false]
  rw [zao1,zbc1,Option.bind_some,Option.bind_some,zbA7,Option.bind_some]
  have heq:∀ l,zV6 l l=true:=fun l=>by unfold zV6; simp
  cases hs:zab9 s with
  | false=>simp [heq]
  | true =>
   have ok:=(zaI1 hs).1
   have hD:zf1 (encS s)=some (s,0):=by
    rw [zba9 ok (by have:=zbd8 ok; omega),hs]; rfl
   simp [heq,hD,zbw0 ok]
end Ab
end Go.Proofs.YtebopmkhhppfaaaGreatDoor
