import Derived.Test.YtdbpboipiceifaaDoorZ1LexA
set_option linter.unusedVariables false
set_option linter.unusedSimpArgs false
namespace Go.Proofs.YtdbpboipiceifaaDoor
open Go.RowKit
inductive Out where
  | tok (k : Nat) (text : List UInt8) (num start : Nat) (rest : List UInt8)
  | bad (tag place : Nat)
abbrev tokV (k : Int) (t : ByteArray) (n at_ : Int) : Value := .agg #[.int .i64 k, .string t, .int .u64 n, .int .i64 at_]
abbrev bytesOf (l : List UInt8) : ByteArray := ⟨l.toArray⟩
def OutPost (w : World) (b : Nat) (s : ByteArray) (o : Out) (e : Ending) (w' : World) : Prop :=
  match o with
  | .tok k t n p r => e = .returned (.tuple #[tokV k (bytesOf t) n (s.size - p : Nat), .nilIface]) ∧ ∃ j, j ≤ s.size ∧ s.data.toList.drop j = r ∧ RdrAt w' b s j ∧ Fr (fun i => i = b) w w'
  | .bad tag p => ∃ f what, e = .returned (.tuple #[tokV 0 (bytesOf []) 0 0, faultV f]) ∧ w.heap.size ≤ f ∧ FaultAt w' f tag (s.size - p : Nat) what .nilIface ∧ Fr (fun i => i = b) w w'
def ResAt (w : World) (R : Nat) : Prop := w.heap[R]? = some (.cells #[.int .i64 0, .string ⟨#[]⟩, .int .u64 0, .int .i64 0] 110 (0, 0))
theorem ResAt.cells {w : World} {R : Nat} (h : ResAt w R) : (w.cell? ⟨R, 0, none⟩ = some (.int .i64 0) ∧ w.cell? ⟨R, 1, none⟩ = some (.string ⟨#[]⟩) ∧ w.cell? ⟨R, 2, none⟩ = some (.int .u64 0) ∧ w.cell? ⟨R, 3, none⟩ = some (.int .i64 0)) ∧
    w.frozen? ⟨R, 0, none⟩ = false ∧ w.frozen? ⟨R, 1, none⟩ = false ∧ w.frozen? ⟨R, 2, none⟩ = false ∧ w.frozen? ⟨R, 3, none⟩ = false :=
  ⟨⟨by rw [cell_blk h]; rfl, by rw [cell_blk h]; rfl, by rw [cell_blk h]; rfl, by rw [cell_blk h]; rfl⟩, frozen_blk h 0, frozen_blk h 1, frozen_blk h 2, frozen_blk h 3⟩
theorem ResAt.keep {F : Nat → Prop} {w w' : World} {R : Nat} (h : ResAt w R) (hf : Fr F w w') (hb : ¬ F R) : ResAt w' R := (hf.block R (blk_lt h) hb).trans h
theorem Fr.quiet {w w' : World} (h : Below w.heap.size w w') : Fr (fun _ => False) w w' := (Fr.of_below h h.size).mono (fun i hi h => by omega)
theorem FaultAt.keep {F : Nat → Prop} {w w' : World} {b : Nat} {tag at_ : Int} {what : ByteArray} {err : Value} (h : FaultAt w b tag at_ what err) (hf : Fr F w w') (hb : ¬ F b) : FaultAt w' b tag at_ what err := (hf.block b (blk_lt h) hb).trans h
def wordS (k : Nat) (l : List UInt8) : Out := if 40 < (l.takeWhile innerB).length then .bad 3 l.length else .tok k (l.takeWhile innerB) 0 l.length (l.dropWhile innerB)
end Go.Proofs.YtdbpboipiceifaaDoor
