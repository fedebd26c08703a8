import Derived.Test.YtbcmkkphbkpapaaDoorLexQ
set_option linter.unusedVariables false
set_option linter.unusedSimpArgs false
namespace Go.Proofs.YtbcmkkphbkpapaaDoor
open Go.RowKit

/-! LexQuotes: the plain law: a text in quotes is read as it is. -/
def escL : List UInt8 → List UInt8
  | [] => []
  | c :: t => (if c = 10 then [92, 110] else if c = 34 then [92, 34] else if c = 92 then [92, 92] else [c]) ++ escL t
theorem escL_append (l m : List UInt8) : escL (l ++ m) = escL l ++ escL m := by
  induction l with
  | nil => rfl
  | cons c t ih => simp [escL, ih]
theorem escL_len (l : List UInt8) : (escL l).length ≤ 2 * l.length := by
  induction l with
  | nil => exact Nat.le_refl _
  | cons c t ih =>
    have h : ∀ c : UInt8, (if c = 10 then [92, 110] else if c = 34 then [92, 34] else if c = 92 then [92, 92] else [c]).length ≤ 2 := by
      intro c
      split
      · simp
      · split
        · simp
        · split <;> simp
    have := h c
    rw [escL, List.length_append, List.length_cons]
    omega
def quoteL (l : List UInt8) : List UInt8 := 34 :: escL l ++ [34]
def fineB (c : UInt8) : Bool := decide (32 ≤ c.toNat) || c == 10
theorem text_esc (p : Nat) (l m : List UInt8) : ∀ out, out.length + l.length ≤ 40 → l.all fineB = true → textS p out (escL l ++ 34 :: m) = .tok 4 (out ++ l) 0 p m := by
  induction l with
  | nil =>
    intro out h _
    rw [escL, List.nil_append, textS_q _ _ rfl, if_neg (by simp at h; omega), List.append_nil]
  | cons c t ih =>
    intro out h hf
    rw [List.all_cons, Bool.and_eq_true] at hf
    have hlen : ∀ x, (out ++ [x]).length + t.length ≤ 40 := by intro x; simp at h ⊢; omega
    have happ : out ++ c :: t = (out ++ [c]) ++ t := by simp
    rw [happ]
    by_cases h10 : c = 10
    · subst h10
      rw [escL, if_pos rfl]
      simp only [List.cons_append, List.nil_append]
      rw [textS_b _ _ (by decide) rfl]
      exact ih _ (hlen _) hf.2
    · by_cases h34 : c = 34
      · subst h34
        rw [escL, if_neg h10, if_pos rfl]
        simp only [List.cons_append, List.nil_append]
        rw [textS_b _ _ (by decide) rfl]
        exact ih _ (hlen _) hf.2
      · by_cases h92 : c = 92
        · subst h92
          rw [escL, if_neg h10, if_neg h34, if_pos rfl]
          simp only [List.cons_append, List.nil_append]
          rw [textS_b _ _ (by decide) rfl]
          exact ih _ (hlen _) hf.2
        · rw [escL, if_neg h10, if_neg h34, if_neg h92]
          simp only [List.cons_append, List.nil_append]
          have h32 : ¬ c.toNat < 32 := by
            have h1 := hf.1
            rw [fineB, Bool.or_eq_true, decide_eq_true_iff, beq_iff_eq] at h1
            rcases h1 with h1 | h1
            · omega
            · exact absurd h1 h10
          rw [textS_c _ _ h34 h92, if_neg h32]
          exact ih _ (hlen _) hf.2
theorem text_rough (p : Nat) (l m : List UInt8) : ∀ out, l.all fineB = false → ∃ q, textS p out (escL l ++ m) = .bad 1 q := by
  induction l with
  | nil => intro out hf; simp at hf
  | cons c t ih =>
    intro out hf
    by_cases h10 : c = 10
    · subst h10
      rw [escL, if_pos rfl]
      simp only [List.cons_append, List.nil_append]
      rw [textS_b _ _ (by decide) rfl]
      exact ih _ (by simpa [fineB] using hf)
    · by_cases h34 : c = 34
      · subst h34
        rw [escL, if_neg h10, if_pos rfl]
        simp only [List.cons_append, List.nil_append]
        rw [textS_b _ _ (by decide) rfl]
        exact ih _ (by simpa [fineB] using hf)
      · by_cases h92 : c = 92
        · subst h92
          rw [escL, if_neg h10, if_neg h34, if_pos rfl]
          simp only [List.cons_append, List.nil_append]
          rw [textS_b _ _ (by decide) rfl]
          exact ih _ (by simpa [fineB] using hf)
        · rw [escL, if_neg h10, if_neg h34, if_neg h92]
          simp only [List.cons_append, List.nil_append]
          rw [textS_c _ _ h34 h92]
          by_cases h32 : c.toNat < 32
          · rw [if_pos h32]; exact ⟨_, rfl⟩
          · rw [if_neg h32]
            refine ih _ ?_
            have h1 : fineB c = true := by rw [fineB, Bool.or_eq_true, decide_eq_true_iff]; left; omega
            rw [List.all_cons, h1] at hf
            simpa using hf
theorem skip34 (m : List UInt8) : skip false (34 :: m) = 34 :: m := by simp [skip, blankB]
theorem lex_quote (l : List UInt8) (h : l.length ≤ 40) (hf : l.all fineB = true) : lexAll (quoteL l) = .ok [⟨4, l, 0, (quoteL l).length⟩, ⟨0, [], 0, 0⟩] := by
  rw [lexAll_step]
  have h1 : nextS (quoteL l) = .tok 4 l 0 (quoteL l).length [] := by
    rw [nextS, quoteL, List.cons_append, skip34, tokS, if_neg (by decide), if_neg (by decide), if_neg (by decide), if_pos rfl]
    have := text_esc (34 :: (escL l ++ [34])).length l [] [] (by simpa using h) hf
    simpa using this
  rw [h1]
  simp only
  rw [if_neg (by decide)]
  have h2 : lexAll [] = .ok [⟨0, [], 0, 0⟩] := by rfl
  rw [h2]
  rfl
theorem lex_rough (l : List UInt8) (hf : l.all fineB = false) : ∃ q, lexAll (quoteL l) = .error (1, q) := by
  obtain ⟨q, hq⟩ := text_rough (34 :: (escL l ++ [34])).length l [34] [] hf
  refine ⟨q, ?_⟩
  rw [lexAll_step]
  have h1 : nextS (quoteL l) = .bad 1 q := by
    rw [nextS, quoteL, List.cons_append, skip34, tokS, if_neg (by decide), if_neg (by decide), if_neg (by decide), if_pos rfl]
    exact hq
  rw [h1]
end Go.Proofs.YtbcmkkphbkpapaaDoor
