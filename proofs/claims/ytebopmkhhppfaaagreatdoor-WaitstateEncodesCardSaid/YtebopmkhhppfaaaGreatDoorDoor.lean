import Derived.Test.YtebopmkhhppfaaaGreatDoorTop
import Derived.Lib.LaidTab
namespace Go.Proofs.YtebopmkhhppfaaaGreatDoor
namespace Ab
set_option linter.unusedSimpArgs false
open Go.ChangeShapes Go.WideShapes Go.ChangeAt Go.RowKit
set_option linter.unusedVariables false
mutual
def lits {H:Type}:DataW H→Option (List A)
 | .lit (.bool b)=>some [.bool b]
 | .lit (.int k n)=>some [.int k n]
 | .agg ds=>zbO6 ds
 | _=>none
def zbO6 {H:Type}:List (DataW H)→Option (List A)
 | []=>some []
 | d :: ds=>(lits d).bind fun a=>(zbO6 ds).bind fun b=>some (a++b)
end
def Lits (P:Program) (T:TypeId):Prop :=
 ∀ {H:Type} (enc:TypeId×Value→H) (w:World) (base:Nat) (spare:Nat→Bool) (held:Bool) (fuel:Nat) (cs:List Value) (x:DataW H×List MemPlace),
  DataW.trod enc P w base spare held fuel T cs=some x→∃ es,lits x.1=some es∧RCs w cs es
section
variable {P:Program} {t e:TypeId}
theorem zbw2 (ht:P.underlying t=some .bool):Lits P t:=by
 intro H enc w base spare held fuel cs x h
 obtain ⟨b,rfl,hx⟩:=DataW.trod_bool ht h
 rw [hx]
 exact ⟨[A.bool b],by simp [lits],.bool b,trivial⟩
theorem zbo4 {H:Type}:∀ {ds:List (DataW H)} {aas:List (List A)},ds.length=aas.length→(∀ (i:Nat) d es,ds[i]? = some d→aas[i]? = some es→lits d=some es)→zbO6 ds=some aas.flatten
 | [],[],_,_=>rfl
 | d :: ds,es :: aas,hl,h=>by
  have h0:=h 0 d es rfl rfl
  have h1:=zbo4 (ds:=ds) (aas:=aas) (by simpa using hl) fun i d' es' hd ha=>h (i+1) d' es' (by simpa using hd) (by simpa using ha)
  simp [zbO6,h0,h1]
 | [],_ :: _,hl,_=>by simp at hl
 | _ :: _,[],hl,_=>by simp at hl
theorem RCs.rows {w:World} {sz:Nat}:∀ (n:Nat) {cs:List Value} {aas:List (List A)},cs.length=n * sz→aas.length=n→(∀ (i:Nat) es,aas[i]? = some es→RCs w ((cs.drop (i * sz)).take sz) es)→RCs w cs aas.flatten
 | 0,cs,aas,h1,h2,_=>by
  have:cs=[]:=List.eq_nil_of_length_eq_zero (by simpa using h1)
  have:aas=[]:=List.eq_nil_of_length_eq_zero h2
  subst_vars; trivial
 | n+1,cs,es :: aas,h1,h2,h=>by
  have e:cs=cs.take sz++cs.drop sz:=(List.take_append_drop sz cs).symm
  rw [e,List.flatten_cons]
  refine RCs.append (RCs.rows (sz:=sz) n (by simp [h1,Nat.add_mul]) (by simpa using h2) fun i es' ha=>?_) (by simpa using h 0 es rfl)
  have:=h (i+1) es' (by simpa using ha)
  rw [List.drop_drop]
  rwa [show sz+i * sz=(i+1) * sz by rw [Nat.add_mul]; omega]
 | n+1,cs,[],h1,h2,_=>by simp at h2
theorem zaB7 {n sz:Nat} (ht:P.underlying t=some (.array n e)) (hce:P.cellsOf e=sz) (hct:P.cellsOf t=n * sz) (he:Lits P e):Lits P t:=by
 intro H enc w base spare held fuel cs x h
 cases fuel with
 | zero=>simp [DataW.trod] at h
 | succ fuel =>
  simp only [DataW.trod,ht,hce,hct] at h
  split at h
  ·rename_i hl
   obtain ⟨xs,hm,hx⟩:=Option.map_eq_some_iff.1 h
   have hxl:xs.length=n:=by simpa using Lib.mapM_length hm
   obtain ⟨aas,hal,ha⟩:=zau2 (p:=fun i es=>(∀ y,xs[i]? = some y→lits y.1=some es)∧RCs w ((cs.drop (i * sz)).take sz) es) n (fun i hi=>by
    obtain ⟨b,hb,hf⟩:=Lib.mapM_at hm i i (by simp [hi])
    obtain ⟨es,h1,h2⟩:=he enc w base spare held fuel _ b hf
    exact ⟨es,fun y hy=>by rw [hb] at hy; cases hy; exact h1,h2⟩)
   refine ⟨aas.flatten,?_,RCs.rows n (by simpa using hl) hal fun i es hi=>(ha i es hi).2⟩
   rw [← hx]
   simp only [lits]
   refine zbo4 (by simp [hxl,hal]) fun i d es hd has=>?_
   simp only [List.getElem?_map,Option.map_eq_some_iff] at hd
   obtain ⟨y,hy,rfl⟩:=hd
   exact (ha i es has).1 y hy
  ·cases h
theorem zaT9 {name:String} {d:DataW Unit} {rest:List (String×DataW Unit)} {W:World} {g:Nat} {es:List A} (hg:P.globalNamed name=some g) (hty:(P.globals[g]?).map (·.type)=some t) (hl:Lits P t) (hd:lits d=some es)
  (h:laidMet P ((name,d) :: rest) W):zaE4 W (fun _=>False) [(g,es)]:=by
 obtain ⟨ps,⟨g',t',cs,fuel,p,q,h1,h2,h3,h4,_,_⟩,_,_⟩:=h
 rw [hg] at h1; cases h1
 rw [hty] at h2; cases h2
 obtain ⟨es',h5,h6⟩:=hl _ _ _ _ _ _ _ _ h4
 rw [hd] at h5; cases h5
 intro g2 cs2 hmem
 simp only [List.mem_singleton,Prod.mk.injEq] at hmem
 obtain ⟨rfl,rfl⟩:=hmem
 refine ⟨fun h=>h,?_,fun j a hj=>?_⟩
 ·have h8:=h3
  unfold World.var? at h8
  rw [hg,Option.bind_some] at h8
  split at h8
  ·rename_i hb; exact (Array.getElem?_eq_some_iff.1 hb).1
  ·cases h8
 ·have hlen:=RCs.len h6
  have hjl:=(List.getElem?_eq_some_iff.1 hj).1
  have hc:=World.var?_cell hg h3 j
  have hu:cs.toList[j]? = some (cs.toList[j]'(by omega)):=List.getElem?_eq_getElem (by omega)
  refine ⟨cs.toList[j]'(by omega),?_,RCs.at h6 j _ a hu hj⟩
  rw [hc,← Array.getElem?_toList]; exact hu
end
end Ab
end Go.Proofs.YtebopmkhhppfaaaGreatDoor
