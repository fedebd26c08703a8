import Derived.Test.YtbcmkkphbkpapaaDoorLexH
set_option linter.unusedVariables false
set_option linter.unusedSimpArgs false
namespace Go.Proofs.YtbcmkkphbkpapaaDoor
open Go.RowKit

/-! LexErrors: the plain law. -/
def longL : List UInt8 := 97 :: List.replicate 40 98
/-- The tests: text, tag, place. -/
def testL : List (List UInt8 × Nat × Nat) := [([95, 120], 1, 0), ([120, 32, 59, 32, 121], 1, 2), ([34, 97, 98], 1, 3), ([34, 97, 92, 120, 34], 1, 2), ([34, 97, 9, 98, 34], 1, 2), ([34, 92], 1, 1),
  ([57, 50, 50, 51, 51, 55, 50, 48, 51, 54, 56, 53, 52, 55, 55, 53, 56, 48, 57], 1, 0), ([57, 57, 57, 57, 57, 57, 57, 57, 57, 57, 57, 57, 57, 57, 57, 57, 57, 57, 57, 57, 57, 57, 57], 1, 0), (longL, 3, 0), (34 :: longL ++ [34], 3, 0),
  ([120, 32, 33], 1, 2), ([120, 32, 58, 32, 121], 1, 2), ([195, 169], 1, 0), ([34, 97, 10, 98, 34], 1, 2), ([0], 1, 0), ([39, 97, 39], 1, 0)]
theorem lexAll_p (l : List UInt8) {e : Nat × Nat} (h : lexAll l = .error e) : lexAll (112 :: 32 :: l) = .error e := by
  rw [lexAll_step]
  have h1 : nextS (112 :: 32 :: l) = .tok 1 [112] 0 (l.length + 2) (32 :: l) := by
    simp [nextS, tokS, skip, blankB, wordS, innerB, List.takeWhile, List.dropWhile]
  rw [h1]
  simp only
  rw [if_neg (by decide)]
  have h2 : lexAll (32 :: l) = lexAll l := by
    rw [lexAll_step, lexAll_step l]
    have : nextS (32 :: l) = nextS l := by simp [nextS, skip, blankB]
    rw [this]
  rw [h2, h]
  rfl
set_option maxRecDepth 100000 in
set_option maxHeartbeats 4000000 in
theorem tests_bad : ∀ t ∈ testL, lexAll t.1 = .error (t.2.1, t.1.length - t.2.2) := by
  intro t ht
  simp only [testL, List.mem_cons, List.not_mem_nil, or_false] at ht
  rcases ht with rfl | rfl | rfl | rfl | rfl | rfl | rfl | rfl | rfl | rfl | rfl | rfl | rfl | rfl | rfl | rfl
  all_goals simp [lexAll, allF, nextS, tokS, skip, blankB, wordS, signS, signL, Lib.hasPrefix, List.isPrefixOf, textS_q, textS_c, textS_0, textS_b, textS_b0, escB, numS, digB, innerB, List.takeWhile, List.dropWhile, Except.map, longL, List.replicate]
end Go.Proofs.YtbcmkkphbkpapaaDoor
