import Derived.Deep.Slices
import Derived.ChangeArms
import Derived.ChangeSame
import Derived.ChangeSlices
import Derived.SizedLaws
set_option linter.unusedVariables false
set_option linter.unusedSimpArgs false
namespace Go.Proofs.YtjlnpdpkobpkiaaDoor
open Go Go.Deep Go.ChangeShapes Go.WideShapes
def OpensAt (P:Program) (n:Nat) (t:TypeId) {α:Type} (R:World→α→List Value→Prop) (ok:α→Prop):Prop:=
  ∀{H:Type} {enc:TypeId×Value→H} {w:World} {base:Nat} {spare:Nat→Bool} {held:Bool} {fuel:Nat} {cs:List Value} {x:DataW H×List MemPlace},
    fuel≤n→DataW.trod enc P w base spare held fuel t cs=some x→∃a,R w a cs∧ok a
theorem OpensAt.le {P:Program} {n m:Nat} {t:TypeId} {α:Type} {R:World→α→List Value→Prop} {ok:α→Prop} (h:OpensAt P n t R ok) (hm:m≤n):OpensAt P m t R ok:=fun hf hx=>h (Nat.le_trans hf hm) hx
def RowOf {α:Type} (R:α→List Value→Prop) (sz:Nat) (w:World) (A:Option Addr) (n:Nat) (ps:List α):Prop:=
  ps.length=n∧n≤9223372036854775807∧(0<n→∃ad,A=some ad∧∀j p,ps[j]? =some p→∃c,c.length=sz∧R p c∧∀i u,c[i]? =some u→w.cell? (ad.add (j*sz+i))=some u)
theorem RowOf.addr {α:Type} {R:α→List Value→Prop} {sz:Nat} {w:World} {A:Option Addr} {n:Nat} {ps:List α} (h:RowOf R sz w A n ps) (hn:0<n) (hz:0<sz):
    ∃b off,A=some ⟨b,off,none⟩∧∀j p,ps[j]? =some p→∃c,c.length=sz∧R p c∧∀i u,c[i]? =some u→w.cell? ⟨b,off+(j*sz+i),none⟩=some u:=by
  obtain ⟨hl,_,h⟩:=h
  obtain ⟨⟨b,off,s⟩,rfl,hc⟩:=h hn
  obtain ⟨c,hcl,_,hcell⟩:=hc 0 _ (List.getElem?_eq_getElem (by omega))
  have k:=hcell 0 _ (List.getElem?_eq_getElem (by omega))
  have hs:s=none:=by
    rw [Nat.zero_mul,Nat.zero_add] at k
    unfold Addr.add World.cell? at k
    rw [if_pos rfl] at k
    split at k
    · split at k
      · cases k
      · rename_i hs;simpa using hs
    · cases k
  subst hs
  refine ⟨b,off,rfl,fun j p hp=> ?_⟩
  obtain ⟨c,h1,h2,h3⟩:=hc j p hp
  refine ⟨c,h1,h2,fun i u hu=> ?_⟩
  have:=h3 i u hu
  unfold Addr.add at this
  split at this
  · rename_i h0;rw [h0];exact this
  · exact this
def RPair {α β:Type} (R:World→α→List Value→Prop) (S:World→β→List Value→Prop) (w:World) (x:α×β) (cs:List Value):Prop:=∃c0 c1,cs=c0++c1∧R w x.1 c0∧S w x.2 c1
inductive OpensF (P:Program) (n:Nat):List Field→Nat→Nat→(α:Type)→(World→α→List Value→Prop)→(α→Prop)→Prop where
  |one {f:Field} {off sz:Nat} {α:Type} {R:World→α→List Value→Prop} {ok:α→Prop} (ho:f.offset=off) (hc:P.cellsOf f.type=sz) (h:OpensAt P n f.type R ok):OpensF P n [f] off sz α R ok
  |cons {f:Field} {fs:List Field} {off s0 s1:Nat} {α β:Type} {R:World→α→List Value→Prop} {ok:α→Prop} {S:World→β→List Value→Prop} {oks:β→Prop} (ho:f.offset=off) (hc:P.cellsOf f.type=s0) (h:OpensAt P n f.type R ok)
      (hs:OpensF P n fs (off+s0) s1 β S oks):OpensF P n (f::fs) off (s0+s1) (α×β) (RPair R S) (fun x=>ok x.1∧oks x.2)
theorem OpensF.get {P:Program} {n:Nat} {fs:List Field} {off sz:Nat} {α:Type} {R:World→α→List Value→Prop} {ok:α→Prop} (h:OpensF P n fs off sz α R ok):
    ∀{H:Type} {enc:TypeId×Value→H} {w:World} {base:Nat} {spare:Nat→Bool} {held:Bool} {fuel:Nat} {cs:List Value},fuel≤n→cs.length=off+sz →
      (∀(i:Nat) (f:Field),fs[i]? =some f→∃x,DataW.trod enc P w base spare held fuel f.type ((cs.drop f.offset).take (P.cellsOf f.type))=some x)→∃a,R w a (cs.drop off)∧ok a:=by
  induction h with
  |one ho hc h=>
    intro H enc w base spare held fuel cs hf hl hx
    obtain ⟨x,hx⟩:=hx 0 _ rfl
    rw [ho,hc,List.take_of_length_le (by simp;omega)] at hx
    exact h hf hx
  | @cons f fs off s0 s1 α β R ok S oks ho hc h hs ih=>
    intro H enc w base spare held fuel cs hf hl hx
    obtain ⟨x,hx0⟩:=hx 0 _ rfl
    rw [ho,hc] at hx0
    obtain ⟨a,hR,hk⟩:=h hf hx0
    obtain ⟨b,hS,hks⟩:=ih hf (by omega) (fun i f' hi=>hx (i+1) f' (by simpa using hi))
    refine ⟨(a,b),⟨_,_,?_,hR,hS⟩,hk,hks⟩
    rw [←List.drop_drop,List.take_append_drop]
end Go.Proofs.YtjlnpdpkobpkiaaDoor
