import Derived.Test.YtdbpboipiceifaaDoorZ1Fault
set_option linter.unusedVariables false
set_option linter.unusedSimpArgs false
namespace Go.Proofs.YtdbpboipiceifaaDoor
open Go.RowKit
def innerB (c : UInt8) : Bool := (decide (97 ≤ c.toNat) && decide (c.toNat ≤ 122)) || ((decide (65 ≤ c.toNat) && decide (c.toNat ≤ 90)) || ((decide (48 ≤ c.toNat) && decide (c.toNat ≤ 57)) || decide (c.toNat = 95)))
def RdrAt (w : World) (b : Nat) (s : ByteArray) (k : Nat) : Prop := w.heap[b]? = some (.cells #[.string s, .int .i64 (k : Int)] 166 (0, 0))
theorem RdrAt.cells {w : World} {b k : Nat} {s : ByteArray} (h : RdrAt w b s k) : w.cell? ⟨b, 0, none⟩ = some (.string s) ∧ w.cell? ⟨b, 1, none⟩ = some (.int .i64 (k : Int)) ∧ w.frozen? ⟨b, 1, none⟩ = false :=
  ⟨by rw [cell_blk h]; rfl, by rw [cell_blk h]; rfl, frozen_blk h 1⟩
theorem RdrAt.set {w : World} {b k : Nat} {s : ByteArray} (h : RdrAt w b s k) (k' : Nat) : RdrAt (w.setCell ⟨b, 1, none⟩ (.int .i64 (k' : Int))) b s k' := by
  have := blk_set (o := 1) h (.int .i64 (k' : Int))
  simpa [RdrAt] using this
theorem RdrAt.keep {F : Nat → Prop} {w w' : World} {b k : Nat} {s : ByteArray} (h : RdrAt w b s k) (hf : Fr F w w') (hb : ¬ F b) : RdrAt w' b s k := (hf.block b (blk_lt h) hb).trans h
theorem RdrAt.drewN {w : World} {b k : Nat} {s : ByteArray} (h : RdrAt w b s k) (n : Nat) : RdrAt (w.drewN n) b s k := h
def blankB (c : UInt8) : Bool := c == 32 || c == 9 || c == 13 || c == 10
def skip : Bool → List UInt8 → List UInt8
  | _, [] => []
  | true, c :: t => if c == 10 then skip false t else skip true t
  | false, c :: t => if c == 35 then skip true t else if blankB c then skip false t else c :: t
end Go.Proofs.YtdbpboipiceifaaDoor
