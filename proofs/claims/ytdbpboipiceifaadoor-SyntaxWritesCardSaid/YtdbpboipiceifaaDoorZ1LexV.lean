import Derived.Test.YtdbpboipiceifaaDoorZ1LexN
set_option linter.unusedVariables false
set_option linter.unusedSimpArgs false
namespace Go.Proofs.YtdbpboipiceifaaDoor
open Go.RowKit
def escL : List UInt8 → List UInt8
  | [] => []
  | c :: t => (if c = 10 then [92, 110] else if c = 34 then [92, 34] else if c = 92 then [92, 92] else [c]) ++ escL t
theorem escL_append (l m : List UInt8) : escL (l ++ m) = escL l ++ escL m := by
  induction l with
  | nil => rfl
  | cons c t ih => simp [escL, ih]
theorem escL_len (l : List UInt8) : (escL l).length ≤ 2 * l.length := by
  induction l with
  | nil => exact Nat.le_refl _
  | cons c t ih =>
    have h : ∀ c : UInt8, (if c = 10 then [92, 110] else if c = 34 then [92, 34] else if c = 92 then [92, 92] else [c]).length ≤ 2 := by
      intro c
      split
      · simp
      · split
        · simp
        · split <;> simp
    have := h c
    rw [escL, List.length_append, List.length_cons]
    omega
def quoteL (l : List UInt8) : List UInt8 := 34 :: escL l ++ [34]
end Go.Proofs.YtdbpboipiceifaaDoor
