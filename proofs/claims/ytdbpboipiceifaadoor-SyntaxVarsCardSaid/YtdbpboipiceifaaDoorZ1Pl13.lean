import Derived.Test.YtdbpboipiceifaaDoorZ1PSPx2
import Derived.Test.YtdbpboipiceifaaDoorZ1PSPx8
import Derived.Test.YtdbpboipiceifaaDoorZ1PSPx12
import Derived.Lib.ItoaLen
import Derived.Laws.Strings
set_option linter.unusedVariables false
set_option linter.unusedSimpArgs false
namespace Go.Proofs.YtdbpboipiceifaaDoorPSP
open Go.RowKit Go.Extern.Stop Go.Stop Go.Extern Go.Proofs.YtdbpboipiceifaaDoorW.PrintWords Go.Proofs.YtdbpboipiceifaaDoor
def TOk (t : S53) : Prop :=
  (t.f0 = 1 ∧ -9223372036854775808 ≤ t.f2 ∧ t.f2 ≤ 9223372036854775807) ∨ (t.f0 = 0 ∧ ∃ n, n < 6 ∧ t.f1 = bytesL (varL.getD n [])) ∨ (t.f0 = 2 ∧ ∃ n, n < 6 ∧ t.f1 = bytesL (symL.getD n []))
theorem term_ok (K N B : Int) (h0 : -9223372036854775808 ≤ B) (h1 : B ≤ 9223372036854775807) : TOk ⟨(termV K N B).1, (termV K N B).2.1, (termV K N B).2.2⟩ := by
  obtain ⟨hn, _⟩ := md_is N 6 (by decide) (by decide)
  unfold termV
  generalize md N 6 = n at hn ⊢
  split
  · refine .inl ⟨rfl, ?_⟩
    show -9223372036854775808 ≤ (if (Go.bits .and .i64 N 64 == 64) = true then B else (n : Int) - 2) ∧ (if (Go.bits .and .i64 N 64 == 64) = true then B else (n : Int) - 2) ≤ 9223372036854775807
    split <;> omega
  · split
    · exact .inr (.inr ⟨rfl, n, by omega, rfl⟩)
    · exact .inr (.inl ⟨rfl, n, by omega, rfl⟩)
theorem bytesL_append (l m : List UInt8) : bytesL l ++ bytesL m = bytesL (l ++ m) := by
  apply ByteArray.ext
  simp
theorem rd55 (l : List S53) (i : Nat) (h : i < l.length) : rd_T53 l (i : Int) = l[i] := by
  unfold rd_T53
  rw [Int.toNat_natCast, List.getD_eq_getElem?_getD, List.getElem?_eq_getElem h]
  rfl
theorem w64 (n : Nat) (h : n < 1000000) : wrap64 ((n : Int) + 1) = ((n + 1 : Nat) : Int) := by unfold wrap64; omega
end Go.Proofs.YtdbpboipiceifaaDoorPSP
