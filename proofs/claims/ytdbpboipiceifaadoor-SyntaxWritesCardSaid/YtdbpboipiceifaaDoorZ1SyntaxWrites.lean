import Derived.Test.YtdbpboipiceifaaDoorZ1LwW
import Derived.Test.YtdbpboipiceifaaDoorZ1Op13
set_option linter.unusedVariables false
namespace Go.Proofs.YtdbpboipiceifaaDoor
open Go Go.Deep Go.ChangeShapes Go.WideShapes Go.RowKit Go.Proofs.YtdbpboipiceifaaDoorPSP Go.Proofs.YtdbpboipiceifaaDoorW.PrintWords
theorem opensDm {n : Nat} : OpensAt Tryd.prog n 89 kdm.K (fun _ => True) :=
  OpensAt.imp (OpensAt.le (opens_struct (n := n) (sz := 2) Tryd.underlying89 (by kernel_rfl)
    (.cons (s0 := 1) rfl (by kernel_rfl) (opens_int (k := .i64) Tryd.underlying3) (.one (sz := 1) rfl (by kernel_rfl) (opens_bool Tryd.underlying4)))) (Nat.le_succ n))
    (fun x => (x.1, x.2)) (fun w a cs h _ => by
      obtain ⟨_, _, rfl, rfl, rfl⟩ := h
      exact ⟨[.int .i64 a.1], [.bool a.2], rfl, rfl, rfl⟩) (fun a h => trivial)
theorem opensDs {n : Nat} : OpensAt Tryd.prog n 22 (RSlice kdm.K 2) (fun _ => True) :=
  OpensAt.imp (OpensAt.le (opens_slice (n := n) Tryd.underlying22 (by kernel_rfl) opensDm) (Nat.le_succ n)) id (fun _ _ _ h _ => h) (fun _ h => trivial)
theorem opensPvW {n : Nat} : OpensAt Tryd.prog n 86 k86.K PvN :=
  OpensAt.imp opens51 (fun x => (⟨x.1, x.2.1, ⟨x.2.2.1.1, x.2.2.1.2⟩, x.2.2.2.1, x.2.2.2.2.1, x.2.2.2.2.2⟩ : PvM)) (fun w a cs h _ => by
    obtain ⟨A, c, A', c', rfl, hl, hr, hl', hr'⟩ := h
    exact k86_mk w ⟨a.1, a.2.1, ⟨a.2.2.1.1, a.2.2.1.2⟩, a.2.2.2.1, a.2.2.2.2.1, a.2.2.2.2.2⟩ hl hr hl' hr') (fun a h => h)
theorem opensPsW {n : Nat} : OpensAt Tryd.prog n 34 (RSlice k86.K 15) (fun xs => ∀ x ∈ xs, PvN x) :=
  OpensAt.imp (OpensAt.le (opens_slice (n := n) Tryd.underlying34 (by kernel_rfl) opensPvW) (Nat.le_succ n)) id (fun _ _ _ h _ => h) (fun _ h => h.2)
theorem opensRW {n : Nat} : OpensAt Tryd.prog n 36 k36.K RlN :=
  OpensAt.imp (OpensAt.le (opens_struct (n := n) (sz := 4) Tryd.underlying36 (by kernel_rfl)
    (.cons (s0 := 2) rfl (by kernel_rfl) opens46 (.cons (s0 := 1) rfl (by kernel_rfl) (opens_int (k := .i64) Tryd.underlying3) (.one (sz := 1) rfl (by kernel_rfl) opensPsW)))) (Nat.le_succ n))
    (fun x => (⟨⟨x.1.1, x.1.2⟩, x.2.1, x.2.2⟩ : RlM)) (fun w a cs h _ => by
      obtain ⟨_, _, rfl, ⟨A, c, rfl, hl, hr⟩, ⟨_, _, rfl, rfl, ⟨A', c', rfl, hl', hr'⟩⟩⟩ := h
      exact k36_mk w ⟨⟨a.1.1, a.1.2⟩, a.2.1, a.2.2⟩ hl hr hl' hr') (fun a h => ⟨h.1, h.2.2⟩)
theorem opensRs {n : Nat} : OpensAt Tryd.prog n 23 (RSlice k36.K 4) (fun xs => ∀ x ∈ xs, RlN x) :=
  OpensAt.imp (OpensAt.le (opens_slice (n := n) Tryd.underlying23 (by kernel_rfl) opensRW) (Nat.le_succ n)) id (fun _ _ _ h _ => h) (fun _ h => h.2)
theorem SyntaxWrites_row {w : World} (hG : TabT w) {dm : List (Int × Bool)} {rm : List RlM} {A A' : Option Addr} {n c n' c' : Nat} (R0 : RSlice kdm.K 2 w dm [.slice A n c]) (o0 : True) (R1 : RSlice k36.K 4 w rm [.slice A' n' c']) (o1 : ∀ r ∈ rm, RlN r) :
    Calls Tryd.prog 3 #[.slice A n c, .slice A' n' c'] w (RetB w (.bool true)) := by
  obtain ⟨A0, c0, e0, l0, h0⟩ := R0
  obtain ⟨A1, c1, e1, l1, h1⟩ := R1
  simp only [List.cons.injEq, Value.slice.injEq, and_true] at e0 e1
  obtain ⟨rfl, rfl, rfl⟩ := e0
  obtain ⟨rfl, rfl, rfl⟩ := e1
  exact Writes_any hG dm rm o1 h0 l0 h1 l1
end Go.Proofs.YtdbpboipiceifaaDoor
