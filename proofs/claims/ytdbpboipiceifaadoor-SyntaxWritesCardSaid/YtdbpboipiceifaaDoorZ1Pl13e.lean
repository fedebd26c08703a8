import Derived.Test.YtdbpboipiceifaaDoorZ1Pl13
set_option linter.unusedVariables false
set_option linter.unusedSimpArgs false
namespace Go.Proofs.YtdbpboipiceifaaDoorPSP
open Go.RowKit Go.Extern.Stop Go.Stop Go.Extern Go.Proofs.YtdbpboipiceifaaDoorW.PrintWords Go.Proofs.YtdbpboipiceifaaDoor
def EB : Nat → S84 → Prop
  | 0, _ => False
  | d + 1, e => (-9223372036854775808 ≤ e.f0.f2 ∧ e.f0.f2 ≤ 9223372036854775807) ∧ (e.f2.length < 2 ∨ ∃ a b rest, e.f2 = a :: b :: rest ∧ EB d a ∧ EB d b)
def EN : Nat → S84 → Prop
  | 0, _ => True
  | d + 1, e => (-9223372036854775808 ≤ e.f0.f2 ∧ e.f0.f2 ≤ 9223372036854775807) ∧ ∀ x ∈ e.f2, EN d x
theorem rd49_0 (a : S84) (l : List S84) : rd_T84 (a :: l) 0 = a := rfl
theorem rd49_1 (a b : S84) (l : List S84) : rd_T84 (a :: b :: l) 1 = b := rfl
theorem count_is : ∀ (d : Nat), d ≤ 7 → ∀ (e : S84), EN (d + 1) e → ∃ r : Nat, r ≤ 128 * 2 ^ d - 1 ∧ 1 ≤ r ∧ (r < 100 → EB d e) ∧
    ∀ k, 4 * d + 4 ≤ k → ergolaw13_E_Count.f k e.f0.f0 e.f0.f1 e.f0.f2 e.f1 e.f2 (7 - (d : Int)) = some (r : Int) := by
  intro d
  induction d with
  | zero =>
    intro _ e _
    refine ⟨100, by omega, by omega, fun h => by omega, fun k hk => ?_⟩
    obtain ⟨k, rfl⟩ : ∃ m, k = m + 1 := ⟨k - 1, by omega⟩
    rw [ergolaw13_E_Count.f, if_pos (by omega)]
    rfl
  | succ d ih =>
    intro hd e he
    obtain ⟨⟨T, P, B⟩, op, kids⟩ := e
    have hp : 128 * 2 ^ (d + 1) = 2 * (128 * 2 ^ d) := by rw [Nat.pow_succ]; omega
    have hb : 2 ^ d ≤ 2 ^ 7 := Nat.pow_le_pow_right (by decide) (by omega)
    have hb2 : 1 ≤ 2 ^ d := Nat.one_le_two_pow
    have hw : wrap64 (7 - ((d + 1 : Nat) : Int) + 1) = 7 - (d : Int) := by unfold wrap64; omega
    have w1 : ∀ n : Nat, n < 100000 → ∀ r : Nat, r < 100000 → wrap64 ((n : Int) + (r : Int)) = ((n + r : Nat) : Int) := fun n h1 r h2 => by unfold wrap64; omega
    cases kids with
    | nil =>
      refine ⟨1, by omega, by omega, fun _ => ⟨he.1, .inl (by simp)⟩, fun k hk => ?_⟩
      obtain ⟨k, rfl⟩ : ∃ m, k = m + 2 := ⟨k - 2, by omega⟩
      rw [ergolaw13_E_Count.f, if_neg (by omega), ergolaw13_E_Count.l0, if_neg (by simp)]
      rfl
    | cons a l =>
      obtain ⟨r0, h1, h2, h3, h4⟩ := ih (by omega) a (he.2 a List.mem_cons_self)
      cases l with
      | nil =>
        refine ⟨1 + r0, by omega, by omega, fun _ => ⟨he.1, .inl (by simp)⟩, fun k hk => ?_⟩
        obtain ⟨k, rfl⟩ : ∃ m, k = m + 3 := ⟨k - 3, by omega⟩
        rw [ergolaw13_E_Count.f, if_neg (by omega), ergolaw13_E_Count.l0, if_pos (by simp), if_pos (by decide), if_pos (by decide), if_pos (by decide), rd49_0, hw, h4 (k + 1) (by omega)]
        simp only [Option.bind_some]
        have e1 := w1 1 (by omega) r0 (by omega)
        rw [show ((1 : Nat) : Int) = 1 from rfl] at e1
        rw [e1, show wrap64 (0 + 1) = 1 by unfold wrap64; decide, ergolaw13_E_Count.l0, if_neg (by simp)]
      | cons b rest =>
        obtain ⟨r1, g1, g2, g3, g4⟩ := ih (by omega) b (he.2 b (List.mem_cons_of_mem _ List.mem_cons_self))
        have e1 := w1 1 (by omega) r0 (by omega)
        rw [show ((1 : Nat) : Int) = 1 from rfl] at e1
        by_cases hc : 1 + r0 < 100
        · refine ⟨1 + r0 + r1, by omega, by omega, fun hr => ⟨he.1, .inr ⟨a, b, rest, rfl, h3 (by omega), g3 (by omega)⟩⟩, fun k hk => ?_⟩
          obtain ⟨k, rfl⟩ : ∃ m, k = m + 4 := ⟨k - 4, by omega⟩
          rw [ergolaw13_E_Count.f, if_neg (by omega), ergolaw13_E_Count.l0, if_pos (by simp; omega), if_pos (by decide), if_pos (by decide), if_pos (by decide), rd49_0, hw, h4 (k + 2) (by omega)]
          simp only [Option.bind_some]
          rw [e1, show wrap64 (0 + 1) = 1 by unfold wrap64; decide, ergolaw13_E_Count.l0, if_pos (by simp; omega), if_pos (by decide), if_pos (by omega), if_pos (by decide), rd49_1, hw, g4 (k + 1) (by omega)]
          simp only [Option.bind_some]
          rw [w1 (1 + r0) (by omega) r1 (by omega), show wrap64 (1 + 1) = 2 by unfold wrap64; decide, ergolaw13_E_Count.l0]
          by_cases hl : (2 : Int) < ((a :: b :: rest).length : Int)
          · rw [if_pos hl, if_neg (by decide)]
          · rw [if_neg hl]
        · refine ⟨1 + r0, by omega, by omega, fun hr => by omega, fun k hk => ?_⟩
          obtain ⟨k, rfl⟩ : ∃ m, k = m + 3 := ⟨k - 3, by omega⟩
          rw [ergolaw13_E_Count.f, if_neg (by omega), ergolaw13_E_Count.l0, if_pos (by simp; omega), if_pos (by decide), if_pos (by decide), if_pos (by decide), rd49_0, hw, h4 (k + 1) (by omega)]
          simp only [Option.bind_some]
          rw [e1, show wrap64 (0 + 1) = 1 by unfold wrap64; decide, ergolaw13_E_Count.l0, if_pos (by simp; omega), if_pos (by decide), if_neg (by omega)]
def XOk : Nat → S57 → Prop
  | 0, _ => False
  | d + 1, x => (x.f2 = [] ∧ TOk x.f0) ∨ ∃ a b, x.f2 = [a, b] ∧ 0 ≤ x.f1 ∧ x.f1 ≤ 4 ∧ XOk d a ∧ XOk d b
theorem expr_made : ∀ (d : Nat) (e : S84), EB d e → ∃ x : S57, XOk d x ∧ ∀ k, d ≤ k → ergolaw13_E_Expr.f k e.f0.f0 e.f0.f1 e.f0.f2 e.f1 e.f2 = some (x.f0.f0, x.f0.f1, x.f0.f2, x.f1, x.f2) := by
  intro d
  induction d with
  | zero => intro e h; exact h.elim
  | succ d ih =>
    intro e h
    obtain ⟨⟨K, N, B⟩, op, kids⟩ := e
    obtain ⟨⟨hB0, hB1⟩, h⟩ := h
    rcases h with h | ⟨a, b, rest, h1, ha, hb⟩
    · refine ⟨⟨⟨(termV (wrap64 (Int.tmod (IntKind.u64.wrap K) 3)) N B).1, (termV (wrap64 (Int.tmod (IntKind.u64.wrap K) 3)) N B).2.1, (termV (wrap64 (Int.tmod (IntKind.u64.wrap K) 3)) N B).2.2⟩, 0, []⟩, .inl ⟨rfl, term_ok _ N B hB0 hB1⟩, fun k hk => ?_⟩
      obtain ⟨k, rfl⟩ : ∃ m, k = m + 1 := ⟨k - 1, by omega⟩
      replace h : kids.length < 2 := h
      show ergolaw13_E_Expr.f (k + 1) K N B op kids = _
      rw [ergolaw13_E_Expr.f, if_pos (by omega)]
      rfl
    · obtain ⟨x, hx, gx⟩ := ih a ha
      obtain ⟨y, hy, gy⟩ := ih b hb
      obtain ⟨x0, x1, x2⟩ := x
      obtain ⟨y0, y1, y2⟩ := y
      simp only at h1
      subst h1
      obtain ⟨ho, ho2⟩ := md_is op 5 (by decide) (by decide)
      refine ⟨⟨⟨0, ⟨#[]⟩, 0⟩, (md op 5 : Int), [⟨x0, x1, x2⟩, ⟨y0, y1, y2⟩]⟩, .inr ⟨_, _, rfl, by simp, by simp only; omega, hx, hy⟩, fun k hk => ?_⟩
      obtain ⟨k, rfl⟩ : ∃ m, k = m + 1 := ⟨k - 1, by omega⟩
      rw [ergolaw13_E_Expr.f, if_neg (by simp; omega), if_pos (by simp; omega), rd49_0, gx k (by omega)]
      simp only [Option.bind_some]
      rw [if_pos (by simp; omega), rd49_1, gy k (by omega)]
      simp only [Option.bind_some]
      rw [ho2]
end Go.Proofs.YtdbpboipiceifaaDoorPSP
