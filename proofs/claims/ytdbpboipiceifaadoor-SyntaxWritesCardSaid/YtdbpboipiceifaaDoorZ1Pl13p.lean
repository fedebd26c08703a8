import Derived.Test.YtdbpboipiceifaaDoorZ1Pl13x
import Derived.Test.YtdbpboipiceifaaDoorZ1PSPx3
import Derived.Test.YtdbpboipiceifaaDoorZ1PSPx14
import Derived.Test.YtdbpboipiceifaaDoorZ1PSPx10
set_option linter.unusedVariables false
set_option linter.unusedSimpArgs false
namespace Go.Proofs.YtdbpboipiceifaaDoorPSP
open Go.RowKit Go.Extern.Stop Go.Stop Go.Extern Go.Proofs.YtdbpboipiceifaaDoorW.PrintWords Go.Proofs.YtdbpboipiceifaaDoor
def TN (t : S81) : Prop := -9223372036854775808 ≤ t.f2 ∧ t.f2 ≤ 9223372036854775807
def t43 (t : S81) : S53 := ⟨(termV t.f0 t.f1 t.f2).1, (termV t.f0 t.f1 t.f2).2.1, (termV t.f0 t.f1 t.f2).2.2⟩
theorem t43_ok {t : S81} (h : TN t) : TOk (t43 t) := term_ok _ _ _ h.1 h.2
def predL : List (List UInt8) := [[112], [113], [114], [101, 100, 103, 101], [112, 97, 116, 104], [115]]
def predS (n : Int) : List UInt8 := predL.getD (md n 6) []
theorem pred_is (n : Int) : ergolaw13_Pred.f n = some (bytesL (predS n)) ∧ (predS n).length ≤ 100 := by
  obtain ⟨h, e⟩ := md_is n 6 (by decide) (by decide)
  unfold ergolaw13_Pred.f predS
  rw [e]
  generalize md n 6 = i at h
  have hc : i = 0 ∨ i = 1 ∨ i = 2 ∨ i = 3 ∨ i = 4 ∨ i = 5 := by omega
  rcases hc with rfl | rfl | rfl | rfl | rfl | rfl <;> exact ⟨rfl, by decide⟩
def argsOf (l : List S81) : List S53 := if l.length = 0 then [⟨0, bytesL [88], 0⟩] else l.map t43
theorem argsOf_ok {l : List S81} (h : ∀ t ∈ l, TN t) : ∀ t ∈ argsOf l, TOk t := by
  unfold argsOf
  split
  · intro t ht
    rw [List.mem_singleton] at ht
    subst ht
    exact .inr (.inl ⟨rfl, 0, by decide, rfl⟩)
  · intro t ht
    obtain ⟨u, hu, rfl⟩ := List.mem_map.1 ht
    exact t43_ok (h u hu)
theorem argsOf_len (l : List S81) : (argsOf l).length ≤ l.length + 1 := by
  unfold argsOf
  split <;> simp
theorem rd43 (l : List S81) (i : Nat) (h : i < l.length) : rd_T81 l (i : Int) = l[i] := by
  unfold rd_T81
  rw [Int.toNat_natCast, List.getD_eq_getElem?_getD, List.getElem?_eq_getElem h]
  rfl
theorem A_l0 (l : List S81) (hl : l.length ≤ 100) (p : ByteArray) : ∀ (d i k : Nat), i + d = l.length → d < k → ergolaw13_A_Atom.l0 k l (l.length : Int) (i : Int) p ((l.take i).map t43) = some (p, argsOf l) := by
  intro d
  induction d with
  | zero =>
    intro i k hi hk
    obtain ⟨k, rfl⟩ : ∃ m, k = m + 1 := ⟨k - 1, by omega⟩
    rw [ergolaw13_A_Atom.l0, if_neg (by omega), List.take_of_length_le (by omega)]
    unfold argsOf
    by_cases h0 : l.length = 0
    · rw [if_pos (by simpa using h0), if_pos h0]
    · rw [if_neg (by simpa using h0), if_neg h0]
  | succ d ih =>
    intro i k hi hk
    obtain ⟨k, rfl⟩ : ∃ m, k = m + 1 := ⟨k - 1, by omega⟩
    have hlt : i < l.length := by omega
    rw [ergolaw13_A_Atom.l0, if_pos (by omega), if_pos (by omega), if_pos (by omega), rd43 l i hlt, w64 i (by omega)]
    unfold ergolaw13_T_Term.f
    simp only [Option.bind_some]
    rw [if_pos (by simp; omega)]
    have e : (l.take i).map t43 ++ [t43 l[i]] = (l.take (i + 1)).map t43 := by
      rw [List.take_add_one, List.getElem?_eq_getElem hlt, List.map_append]
      rfl
    have := ih (i + 1) k (by omega) (by omega)
    rw [← e] at this
    exact this
theorem A_is (n : Int) (l : List S81) (hl : l.length ≤ 100) : ∀ k, 101 ≤ k → ergolaw13_A_Atom.f k n l = some (bytesL (predS n), argsOf l) := by
  intro k hk
  unfold ergolaw13_A_Atom.f
  rw [(pred_is n).1]
  simp only [Option.bind_some]
  exact A_l0 l hl _ l.length 0 k (by omega) (by omega)
theorem atomL_len (p : List UInt8) (hp : p.length ≤ 100) (l : List S53) (hl : l.length ≤ 1000) (h : ∀ t ∈ l, TOk t) : (atomL p l).length ≤ 30000 := by
  unfold atomL
  have := argsL_len l h true
  simp
  omega
def colS (o : Int) : List UInt8 := columnL.getD (md o 6) []
theorem col_is (o : Int) : column_Op_Sign.f (md o 6 : Int) = some (bytesL (colS o)) ∧ (colS o).length ≤ 2 := by
  obtain ⟨h, _⟩ := md_is o 6 (by decide) (by decide)
  unfold column_Op_Sign.f colS
  generalize md o 6 = i at h
  have hc : i = 0 ∨ i = 1 ∨ i = 2 ∨ i = 3 ∨ i = 4 ∨ i = 5 := by omega
  rcases hc with rfl | rfl | rfl | rfl | rfl | rfl <;> exact ⟨rfl, by decide⟩
theorem tsize {t : S53} (h : TOk t) : ∃ s : List UInt8, termS t = bytesL s ∧ s.length ≤ 24 := by
  have := (termS_is h).1
  rw [size_L] at this
  exact ⟨toL (termS t), rfl, this⟩
theorem termV_var (N B : Int) : TOk ⟨(termV 0 N B).1, (termV 0 N B).2.1, (termV 0 N B).2.2⟩ ∧ (termV 0 N B).2.1.size ≤ 8 := by
  obtain ⟨hn, _⟩ := md_is N 6 (by decide) (by decide)
  have e : md 0 4 = 0 := by
    obtain ⟨_, h⟩ := md_is 0 4 (by decide) (by decide)
    have : wrap64 (Int.tmod (IntKind.u64.wrap 0) 4) = 0 := by unfold wrap64; decide
    omega
  unfold termV
  rw [e, if_neg (by decide), if_neg (by decide)]
  generalize md N 6 = i at hn
  refine ⟨.inr (.inl ⟨rfl, i, by omega, rfl⟩), ?_⟩
  have hc : i = 0 ∨ i = 1 ∨ i = 2 ∨ i = 3 ∨ i = 4 ∨ i = 5 := by omega
  rcases hc with rfl | rfl | rfl | rfl | rfl | rfl <;> decide
theorem a4 (a b c d : UInt8) (t : List UInt8) : (⟨#[a, b, c, d]⟩ : ByteArray) ++ bytesL t = bytesL ([a, b, c, d] ++ t) := bytesL_append [a, b, c, d] t
theorem b4 (a b c d : UInt8) (t : List UInt8) : bytesL t ++ (⟨#[a, b, c, d]⟩ : ByteArray) = bytesL (t ++ [a, b, c, d]) := bytesL_append t [a, b, c, d]
end Go.Proofs.YtdbpboipiceifaaDoorPSP
