import Derived.Test.YtjlnpdpkobpkiaaDoorZ2Pr14
set_option linter.unusedVariables false
set_option linter.unusedSimpArgs false
namespace Go.Proofs.YtjlnpdpkobpkiaaDoorPSP
open Go.RowKit Go.Extern.Stop Go.Stop Go.Extern Go.Proofs.YtjlnpdpkobpkiaaDoorW.PrintWords Go.Proofs.YtjlnpdpkobpkiaaDoor
abbrev partZ:Obj:= .cells #[.int .i64 0,.string ⟨#[]⟩,.slice none 0 0,.int .i64 0,.int .i64 0,.string ⟨#[]⟩,.int .i64 0,.int .i64 0,.string ⟨#[]⟩,.int .i64 0,.string ⟨#[]⟩,.int .i64 0,.string ⟨#[]⟩,.int .i64 0,.int .i64 0,.slice none 0 0] 59
abbrev partA (p:Pt) (A:Option Addr) (c:Nat) (A':Option Addr) (c':Nat):Array Value:= #[.int .i64 p.f0,.string p.f1.f0,.slice A p.f1.f1.length c,.int .i64 p.f2,.int .i64 p.f3.f0,.string p.f3.f1,.int .i64 p.f3.f2,.int .i64 p.f4.f0,.string p.f4.f1,.int .i64 p.f4.f2,.string p.f5,.int .i64 p.f6.f0.f0,.string p.f6.f0.f1,.int .i64 p.f6.f0.f2,.int .i64 p.f6.f1,(.slice A' p.f6.f2.length c')]
theorem blk16 {w:World} {b:Nat} {a0 a1 a2 a3 a4 a5 a6 a7 a8 a9 a10 a11 a12 a13 a14 a15:Value} {t:TypeId} (h:w.heap[b]? =some (.cells #[a0,a1,a2,a3,a4,a5,a6,a7,a8,a9,a10,a11,a12,a13,a14,a15] t (0,0))):
    (w.cell? ⟨b,0,none⟩=some a0∧w.cell? ⟨b,1,none⟩=some a1∧w.cell? ⟨b,2,none⟩=some a2∧w.cell? ⟨b,3,none⟩=some a3∧w.cell? ⟨b,4,none⟩=some a4∧w.cell? ⟨b,5,none⟩=some a5∧w.cell? ⟨b,6,none⟩=some a6∧w.cell? ⟨b,7,none⟩=some a7∧w.cell? ⟨b,8,none⟩=some a8∧w.cell? ⟨b,9,none⟩=some a9∧w.cell? ⟨b,10,none⟩=some a10∧w.cell? ⟨b,11,none⟩=some a11∧w.cell? ⟨b,12,none⟩=some a12∧w.cell? ⟨b,13,none⟩=some a13∧w.cell? ⟨b,14,none⟩=some a14∧w.cell? ⟨b,15,none⟩=some a15)∧w.frozen? ⟨b,0,none⟩=false∧w.frozen? ⟨b,1,none⟩=false∧w.frozen? ⟨b,2,none⟩=false∧w.frozen? ⟨b,3,none⟩=false∧w.frozen? ⟨b,4,none⟩=false∧w.frozen? ⟨b,5,none⟩=false∧w.frozen? ⟨b,6,none⟩=false∧w.frozen? ⟨b,7,none⟩=false∧w.frozen? ⟨b,8,none⟩=false∧w.frozen? ⟨b,9,none⟩=false∧w.frozen? ⟨b,10,none⟩=false∧w.frozen? ⟨b,11,none⟩=false∧w.frozen? ⟨b,12,none⟩=false∧w.frozen? ⟨b,13,none⟩=false∧w.frozen? ⟨b,14,none⟩=false∧w.frozen? ⟨b,15,none⟩=false:=
  ⟨⟨cell_blk h 0,cell_blk h 1,cell_blk h 2,cell_blk h 3,cell_blk h 4,cell_blk h 5,cell_blk h 6,cell_blk h 7,cell_blk h 8,cell_blk h 9,cell_blk h 10,cell_blk h 11,cell_blk h 12,cell_blk h 13,cell_blk h 14,cell_blk h 15⟩,Lib.frozen_of_heap h 0,Lib.frozen_of_heap h 1,Lib.frozen_of_heap h 2,Lib.frozen_of_heap h 3,Lib.frozen_of_heap h 4,Lib.frozen_of_heap h 5,Lib.frozen_of_heap h 6,Lib.frozen_of_heap h 7,Lib.frozen_of_heap h 8,Lib.frozen_of_heap h 9,Lib.frozen_of_heap h 10,Lib.frozen_of_heap h 11,Lib.frozen_of_heap h 12,Lib.frozen_of_heap h 13,Lib.frozen_of_heap h 14,Lib.frozen_of_heap h 15⟩
def outc3 (l:List Tk):Nat:=match termP l with
  | .error _=>2
  | .ok _=>3
def outc2 (l:List Tk):Nat:=match compareP l with
  | .error _=>1
  | .ok (_,l6)=>outc3 l6
def outc (l:List Tk):Nat:=match termP l with
  | .error _=>0
  | .ok (_,l5)=>outc2 l5
theorem oc_0 {l:List Tk} {e:Nat×Nat} (h:termP l= .error e):outc l=0:=by unfold outc;rw [h]
theorem oc_a {l l5:List Tk} {a:Tm} (h:termP l= .ok (a,l5)):outc l=outc2 l5:=by unfold outc;rw [h]
theorem oc_1 {l:List Tk} {e:Nat×Nat} (h:compareP l= .error e):outc2 l=1:=by unfold outc2;rw [h]
theorem oc_b {l l6:List Tk} {a:Int} (h:compareP l= .ok (a,l6)):outc2 l=outc3 l6:=by unfold outc2;rw [h]
theorem oc_2 {l:List Tk} {e:Nat×Nat} (h:termP l= .error e):outc3 l=2:=by unfold outc3;rw [h]
theorem oc_3 {l l6:List Tk} {a:Tm} (h:termP l= .ok (a,l6)):outc3 l=3:=by unfold outc3;rw [h]
theorem oc_n1 (l:List Tk):¬1=outc3 l:=by unfold outc3;split <;>decide
theorem oc_n0 (l:List Tk):¬0=outc2 l:=by
  unfold outc2
  split
  · decide
  · unfold outc3;split <;>decide
theorem oc_all (l:List Tk):outc l=0∨outc l=1∨outc l=2∨outc l=3:=by
  unfold outc
  split
  · exact .inl rfl
  · unfold outc2
    split
    · exact .inr (.inl rfl)
    · unfold outc3
      split
      · exact .inr (.inr (.inl rfl))
      · exact .inr (.inr (.inr rfl))
def PShp (u:Value):Prop:=∃a0 a1 A2 n2 c2 a3 a4 a5 a6 a7 a8 a9 a10 a11 a12 a13 a14 A15 n15 c15,u= .agg #[.int .i64 a0,.string a1,.slice A2 n2 c2,.int .i64 a3,.int .i64 a4,.string a5,.int .i64 a6,.int .i64 a7,.string a8,.int .i64 a9,.string a10,.int .i64 a11,.string a12,.int .i64 a13,.int .i64 a14,.slice A15 n15 c15]
def PartPost (E:Env) (w:World) (d:Nat) (r:Rs Pt) (e:Ending) (w':World):Prop:=match r with
  | .ok (p,l')=>∃j' A c A' c',e= .returned (.tuple #[.agg (partA p A c A' c'),.nilIface])∧At E w' j' d l'∧p.f1.f1.length≤c∧Kd.F k53 w' (fun i=>w.heap.size≤i) A p.f1.f1.length p.f1.f1∧p.f6.f2.length≤c'∧Kd.F k57 w' (fun i=>w.heap.size≤i) A' p.f6.f2.length p.f6.f2∧Fr (fun i=>i=E.b) w w'
  | .error (t,p)=>∃f what u,e= .returned (.tuple #[u,faultV f])∧PShp u∧FaultAt w' f (t:Int) (p:Int) what .nilIface∧w.heap.size≤f∧Fr (fun i=>i=E.b) w w'
end Go.Proofs.YtjlnpdpkobpkiaaDoorPSP
