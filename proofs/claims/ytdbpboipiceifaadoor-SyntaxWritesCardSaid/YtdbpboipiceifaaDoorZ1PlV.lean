import Derived.Test.YtdbpboipiceifaaDoorZ1Pl13p
import Derived.Test.YtdbpboipiceifaaDoorZ1PSPx0
import Derived.Test.YtdbpboipiceifaaDoorZ1PSPx7
set_option linter.unusedVariables false
set_option linter.unusedSimpArgs false
namespace Go.Proofs.YtdbpboipiceifaaDoorPSP
open Go.RowKit Go.Extern.Stop Go.Stop Go.Extern Go.Proofs.YtdbpboipiceifaaDoorW.PrintWords Go.Proofs.YtdbpboipiceifaaDoor
abbrev Tm := S53
abbrev Xp := S57
abbrev Pt := S59
def PShape (p : Pt) : Prop :=
  ((p.f0 = 0 ∨ p.f0 = 1) ∧ (∃ n, p.f1.f0 = bytesL (predS n)) ∧ p.f1.f1.length ≤ 7 ∧ ∀ t ∈ p.f1.f1, TOk t) ∨ (p.f0 = 2 ∧ (∃ o, p.f2 = (md o 6 : Int)) ∧ TOk p.f3 ∧ TOk p.f4) ∨ (p.f0 = 3 ∧ p.f5.size ≤ 8 ∧ XOk 7 p.f6)
def PFields (p : Pt) : Int × ByteArray × List Tm × Int × Int × ByteArray × Int × Int × ByteArray × Int × ByteArray × Int × ByteArray × Int × Int × List Xp :=
  (p.f0, p.f1.f0, p.f1.f1, p.f2, p.f3.f0, p.f3.f1, p.f3.f2, p.f4.f0, p.f4.f1, p.f4.f2, p.f5, p.f6.f0.f0, p.f6.f0.f1, p.f6.f0.f2, p.f6.f1, p.f6.f2)
abbrev madeF (k : Nat) (p : S86) := ergolaw13_P_Part.f k p.f0 p.f1 p.f2.f0 p.f2.f1 p.f3.f0 p.f3.f1 p.f3.f2 p.f4.f0 p.f4.f1 p.f4.f2 p.f5.f0.f0 p.f5.f0.f1 p.f5.f0.f2 p.f5.f1 p.f5.f2
def PB (p : S86) : Prop := p.f2.f1.length ≤ 6 ∧ (∀ t ∈ p.f2.f1, TN t) ∧ TN p.f3 ∧ TN p.f4 ∧ EB 7 p.f5
theorem part_made (p : S86) (h : PB p) : ∃ q : Pt, PShape q ∧ ∀ k, 2000 ≤ k → madeF k p = some (PFields q) := by
  obtain ⟨fo, op, ⟨pr, l⟩, x, y, e⟩ := p
  obtain ⟨hl, hn, hx, hy, he⟩ := h
  simp only at hl hn hx hy he
  obtain ⟨hf, ef⟩ := md_is fo 6 (by decide) (by decide)
  have hargs := argsOf_ok hn
  have hal := argsOf_len l
  by_cases h3 : md fo 6 = 3
  · refine ⟨⟨1, ⟨bytesL (predS pr), argsOf l⟩, 0, ⟨0, ⟨#[]⟩, 0⟩, ⟨0, ⟨#[]⟩, 0⟩, ⟨#[]⟩, ⟨⟨0, ⟨#[]⟩, 0⟩, 0, []⟩⟩, .inl ⟨.inr rfl, ⟨pr, rfl⟩, by simp only; omega, hargs⟩, fun k hk => ?_⟩
    unfold madeF ergolaw13_P_Part.f
    rw [ef, h3, if_pos (by rfl), A_is pr l (by omega) k (by omega)]
    rfl
  · by_cases h4 : md fo 6 = 4
    · obtain ⟨ho, eo⟩ := md_is op 6 (by decide) (by decide)
      have tx := t43_ok hx
      have ty := t43_ok hy
      refine ⟨⟨2, ⟨⟨#[]⟩, []⟩, (md op 6 : Int), t43 x, t43 y, ⟨#[]⟩, ⟨⟨0, ⟨#[]⟩, 0⟩, 0, []⟩⟩, .inr (.inl ⟨rfl, ⟨op, rfl⟩, tx, ty⟩), fun k hk => ?_⟩
      unfold madeF ergolaw13_P_Part.f
      rw [ef, h4, if_neg (by decide), if_pos (by rfl), eo]
      rfl
    · by_cases h5 : md fo 6 = 5
      · obtain ⟨z, hz, gz⟩ := expr_made 7 e he
        obtain ⟨_, lv⟩ := termV_var x.f1 x.f2
        refine ⟨⟨3, ⟨⟨#[]⟩, []⟩, 0, ⟨0, ⟨#[]⟩, 0⟩, ⟨0, ⟨#[]⟩, 0⟩, (termV 0 x.f1 x.f2).2.1, z⟩, .inr (.inr ⟨rfl, lv, hz⟩), fun k hk => ?_⟩
        unfold madeF ergolaw13_P_Part.f
        rw [ef, h5, if_neg (by decide), if_neg (by decide), if_pos (by rfl), gz k (by omega)]
        rfl
      · refine ⟨⟨0, ⟨bytesL (predS pr), argsOf l⟩, 0, ⟨0, ⟨#[]⟩, 0⟩, ⟨0, ⟨#[]⟩, 0⟩, ⟨#[]⟩, ⟨⟨0, ⟨#[]⟩, 0⟩, 0, []⟩⟩, .inl ⟨.inl rfl, ⟨pr, rfl⟩, by simp only; omega, hargs⟩, fun k hk => ?_⟩
        unfold madeF ergolaw13_P_Part.f
        rw [ef, if_neg (by omega), if_neg (by omega), if_neg (by omega), A_is pr l (by omega) k (by omega)]
        rfl
theorem rd71 (l : List Pt) (i : Nat) (h : i < l.length) : rd_T59 l (i : Int) = l[i] := by
  unfold rd_T59
  rw [Int.toNat_natCast, List.getD_eq_getElem?_getD, List.getElem?_eq_getElem h]
  rfl
end Go.Proofs.YtdbpboipiceifaaDoorPSP
