import Derived.Test.YtdbpboipiceifaaDoorZ1LexB
import Derived.IntWalk
set_option linter.unusedVariables false
set_option linter.unusedSimpArgs false
namespace Go.Proofs.YtdbpboipiceifaaDoor
open Go.RowKit
def NumAt (w : World) (T k n : Nat) : Prop := w.heap[T]? = some (.cells #[.int .i64 3, .string ⟨#[]⟩, .int .u64 (n : Int), .int .i64 (k : Int)] 110 (0, 0))
theorem NumAt.cells {w : World} {T k n : Nat} (h : NumAt w T k n) : (w.cell? ⟨T, 0, none⟩ = some (.int .i64 3) ∧ w.cell? ⟨T, 1, none⟩ = some (.string ⟨#[]⟩) ∧ w.cell? ⟨T, 2, none⟩ = some (.int .u64 (n : Int)) ∧ w.cell? ⟨T, 3, none⟩ = some (.int .i64 (k : Int))) ∧ w.frozen? ⟨T, 2, none⟩ = false :=
  ⟨⟨by rw [cell_blk h]; rfl, by rw [cell_blk h]; rfl, by rw [cell_blk h]; rfl, by rw [cell_blk h]; rfl⟩, frozen_blk h 2⟩
theorem NumAt.keep {F : Nat → Prop} {w w' : World} {T k n : Nat} (h : NumAt w T k n) (hf : Fr F w w') (hb : ¬ F T) : NumAt w' T k n := (hf.block T (blk_lt h) hb).trans h
theorem NumAt.set {w : World} {T k n : Nat} (h : NumAt w T k n) (m : Nat) : NumAt (w.setCell ⟨T, 2, none⟩ (.int .u64 (m : Int))) T k m := by
  have := blk_set (o := 2) h (.int .u64 (m : Int))
  simpa [NumAt] using this
end Go.Proofs.YtdbpboipiceifaaDoor
