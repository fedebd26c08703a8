import Derived.Test.YtdbpboipiceifaaDoorZ1LwV
set_option linter.unusedVariables false
namespace Go.Proofs.YtdbpboipiceifaaDoor
open Go Go.Deep Go.ChangeShapes Go.WideShapes Go.RowKit Go.Proofs.YtdbpboipiceifaaDoorPSP Go.Proofs.YtdbpboipiceifaaDoorW.PrintWords
theorem opensPv {n : Nat} : OpensAt Tryd.prog n 86 k86.K PvN :=
  OpensAt.imp opens51 (fun x => (⟨x.1, x.2.1, ⟨x.2.2.1.1, x.2.2.1.2⟩, x.2.2.2.1, x.2.2.2.2.1, x.2.2.2.2.2⟩ : PvM)) (fun w a cs h _ => by
    obtain ⟨A, c, A', c', rfl, hl, hr, hl', hr'⟩ := h
    exact k86_mk w ⟨a.1, a.2.1, ⟨a.2.2.1.1, a.2.2.1.2⟩, a.2.2.2.1, a.2.2.2.2.1, a.2.2.2.2.2⟩ hl hr hl' hr') (fun a h => h)
theorem opensPs {n : Nat} : OpensAt Tryd.prog n 34 (RSlice k86.K 15) (fun xs => ∀ x ∈ xs, PvN x) :=
  OpensAt.imp (OpensAt.le (opens_slice (n := n) Tryd.underlying34 (by kernel_rfl) opensPv) (Nat.le_succ n)) id (fun _ _ _ h _ => h) (fun _ h => h.2)
theorem opensR {n : Nat} : OpensAt Tryd.prog n 36 k36.K RlN :=
  OpensAt.imp (OpensAt.le (opens_struct (n := n) (sz := 4) Tryd.underlying36 (by kernel_rfl)
    (.cons (s0 := 2) rfl (by kernel_rfl) opens46 (.cons (s0 := 1) rfl (by kernel_rfl) (opens_int (k := .i64) Tryd.underlying3) (.one (sz := 1) rfl (by kernel_rfl) opensPs)))) (Nat.le_succ n))
    (fun x => (⟨⟨x.1.1, x.1.2⟩, x.2.1, x.2.2⟩ : RlM)) (fun w a cs h _ => by
      obtain ⟨_, _, rfl, ⟨A, c, rfl, hl, hr⟩, ⟨_, _, rfl, rfl, ⟨A', c', rfl, hl', hr'⟩⟩⟩ := h
      exact k36_mk w ⟨⟨a.1.1, a.1.2⟩, a.2.1, a.2.2⟩ hl hr hl' hr') (fun a h => ⟨h.1, h.2.2⟩)
abbrev zeroR : Value := .agg #[.int .i64 0, .slice none 0 0, .int .i64 0, .slice none 0 0]
theorem SyntaxVars_row {w : World} (hG : TabT w) {r : RlM} {c0 : Array Value} (R0 : k36.K w r c0.toList) (o0 : RlN r) : Calls Tryd.prog 4 #[.agg c0] w (RetB w (.bool true)) := by
  obtain ⟨A1, c1, A3, c3, h, l1, g1, l3, g3⟩ := k36_open R0
  obtain rfl : c0 = _ := by rw [← Array.toArray_toList (xs := c0), h]
  exact Vars_any hG r.f0.f0 r.f1 r.f0.f1 r.f2 o0 g1 l1 g3 l3
end Go.Proofs.YtdbpboipiceifaaDoor
