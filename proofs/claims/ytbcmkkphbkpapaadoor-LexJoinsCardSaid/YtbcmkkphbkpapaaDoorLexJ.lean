import Derived.Test.YtbcmkkphbkpapaaDoorLexH
set_option linter.unusedVariables false
set_option linter.unusedSimpArgs false
namespace Go.Proofs.YtbcmkkphbkpapaaDoor
open Go.RowKit

/-! LexJoins: the plain law: two texts with a newline between. -/
def Tk.up (d : Nat) (t : Tk) : Tk := ⟨t.kind, t.text, t.num, t.start + d⟩
theorem skip_cons (c : Bool) (l m : List UInt8) {x : UInt8} {t : List UInt8} (h : skip c l = x :: t) : skip c (l ++ m) = (x :: t) ++ m := by
  induction l generalizing c with
  | nil => cases c <;> simp [skip] at h
  | cons a l ih =>
    cases c
    · rw [List.cons_append, skip]
      rw [skip] at h
      split at h
      · rename_i e; rw [if_pos e]; exact ih true h
      · rename_i e
        rw [if_neg e]
        split at h
        · rename_i e2; rw [if_pos e2]; exact ih false h
        · rename_i e2
          rw [if_neg e2]
          injection h with h1 h2
          rw [h1, h2]
          rfl
    · rw [List.cons_append, skip]
      rw [skip] at h
      split at h
      · rename_i e; rw [if_pos e]; exact ih false h
      · rename_i e; rw [if_neg e]; exact ih true h
theorem skip_nil (c : Bool) (l b : List UInt8) (h : skip c l = []) : skip c (l ++ 10 :: b) = skip false b := by
  induction l generalizing c with
  | nil =>
    cases c
    · simp [skip, blankB]
    · simp [skip]
  | cons a l ih =>
    cases c
    · rw [List.cons_append, skip]
      rw [skip] at h
      split at h
      · rename_i e; rw [if_pos e]; exact ih true h
      · rename_i e
        rw [if_neg e]
        split at h
        · rename_i e2; rw [if_pos e2]; exact ih false h
        · simp at h
    · rw [List.cons_append, skip]
      rw [skip] at h
      split at h
      · rename_i e; rw [if_pos e]; exact ih false h
      · rename_i e; rw [if_neg e]; exact ih true h
theorem inner10 : innerB 10 = false := by decide
theorem dig10 : digB 10 = false := by decide
theorem takeW_join (f : UInt8 → Bool) (hf : f 10 = false) (l b : List UInt8) : (l ++ 10 :: b).takeWhile f = l.takeWhile f ∧ (l ++ 10 :: b).dropWhile f = l.dropWhile f ++ 10 :: b := by
  induction l with
  | nil => simp [List.takeWhile_cons, List.dropWhile_cons, hf]
  | cons a l ih =>
    rw [List.cons_append, List.takeWhile_cons, List.dropWhile_cons, List.takeWhile_cons, List.dropWhile_cons]
    cases h : f a
    · simp
    · simp [ih]
theorem word_join {kd k n p : Nat} {l t r : List UInt8} (b : List UInt8) (h : wordS kd l = .tok k t n p r) : wordS kd (l ++ 10 :: b) = .tok k t n (p + (b.length + 1)) (r ++ 10 :: b) := by
  obtain ⟨h1, h2⟩ := takeW_join innerB inner10 l b
  rw [wordS] at h ⊢
  rw [h1, h2]
  split at h
  · simp at h
  · rename_i e
    rw [if_neg e]
    injection h with e1 e2 e3 e4 e5
    subst e1 e2 e3 e4 e5
    simp
theorem num_join {k n p q acc : Nat} {l t r : List UInt8} (b : List UInt8) (h : numS p acc l = .tok k t n q r) : numS (p + (b.length + 1)) acc (l ++ 10 :: b) = .tok k t n (q + (b.length + 1)) (r ++ 10 :: b) := by
  induction l generalizing acc with
  | nil =>
    rw [numS] at h
    injection h with e1 e2 e3 e4 e5
    subst e1 e2 e3 e4 e5
    rw [List.nil_append, numS, if_neg (by rw [dig10]; decide)]
  | cons a l ih =>
    rw [List.cons_append, numS]
    rw [numS] at h
    split at h
    · rename_i e
      rw [if_pos e]
      split at h
      · simp at h
      · rename_i e2
        rw [if_neg e2]
        exact ih h
    · rename_i e
      rw [if_neg e]
      injection h with e1 e2 e3 e4 e5
      subst e1 e2 e3 e4 e5
      simp
theorem text_join (N : Nat) : ∀ {k n p q d : Nat} {l t r out : List UInt8} (m : List UInt8), l.length = N → textS p out l = .tok k t n q r → textS (p + d) out (l ++ m) = .tok k t n (q + d) (r ++ m) := by
  induction N using Nat.strongRecOn with
  | _ N ih =>
    intro k n p q d l t r out m hN h
    match l with
    | [] => rw [textS_0] at h; cases h
    | c :: t0 =>
      rw [List.cons_append]
      by_cases h34 : c = 34
      · rw [textS_q _ _ h34] at h ⊢
        split at h
        · simp at h
        · rename_i e
          rw [if_neg e]
          injection h with e1 e2 e3 e4 e5
          subst e1 e2 e3 e4 e5
          rfl
      · by_cases h92 : c = 92
        · match t0 with
          | [] => rw [textS_b0 _ _ h34 h92] at h; cases h
          | e :: t1 =>
            rw [List.cons_append]
            rw [textS_b _ _ h34 h92] at h ⊢
            cases he : escB e with
            | none => rw [he] at h; cases h
            | some x =>
              rw [he] at h
              exact ih t1.length (by simp at hN; omega) m rfl h
        · rw [textS_c _ _ h34 h92] at h ⊢
          split at h
          · cases h
          · rename_i e
            rw [if_neg e]
            exact ih t0.length (by simp at hN; omega) m rfl h
theorem find_same {α : Type} {f g : α → Bool} {l : List α} (h : ∀ x ∈ l, f x = g x) : l.find? f = l.find? g := by
  induction l with
  | nil => rfl
  | cons a l ih =>
    rw [List.find?_cons, List.find?_cons, h a (by simp), ih (fun x hx => h x (by simp [hx]))]
theorem prefix_join (q l b : List UInt8) (hq : (10 : UInt8) ∉ q) : Lib.hasPrefix (l ++ 10 :: b) q = Lib.hasPrefix l q := by
  unfold Lib.hasPrefix
  induction q generalizing l with
  | nil => simp [List.isPrefixOf]
  | cons x q ih =>
    cases l with
    | nil =>
      have : (x == 10) = false := by simp at hq; simpa using fun e => hq.1 e.symm
      simp [List.isPrefixOf, this]
    | cons a l =>
      simp only [List.cons_append, List.isPrefixOf]
      rw [ih l (by simp at hq; exact hq.2)]
theorem sign_ten : ∀ q ∈ signL, (10 : UInt8) ∉ q := by decide
theorem prefix_len {l q : List UInt8} (h : Lib.hasPrefix l q = true) : q.length ≤ l.length := by
  unfold Lib.hasPrefix at h
  exact (List.isPrefixOf_iff_prefix.1 h).length_le
theorem sign_join {k n p : Nat} {l t r : List UInt8} (b : List UInt8) (h : signS l = .tok k t n p r) : signS (l ++ 10 :: b) = .tok k t n (p + (b.length + 1)) (r ++ 10 :: b) := by
  rw [signS] at h ⊢
  rw [find_same (g := fun q => Lib.hasPrefix l q) (fun q hq => prefix_join q l b (sign_ten q hq))]
  cases hf : signL.find? (fun q => Lib.hasPrefix l q) with
  | none => rw [hf] at h; simp at h
  | some q =>
    rw [hf] at h
    have hl := prefix_len (List.find?_some hf)
    simp only at h ⊢
    injection h with e1 e2 e3 e4 e5
    subst e1 e2 e3 e4 e5
    rw [List.drop_append_of_le_length hl]
    simp
theorem tok_join {k n p : Nat} {l t r : List UInt8} (b : List UInt8) (hl : l ≠ []) (h : tokS l = .tok k t n p r) : tokS (l ++ 10 :: b) = .tok k t n (p + (b.length + 1)) (r ++ 10 :: b) := by
  match l with
  | [] => exact absurd rfl hl
  | c :: t0 =>
    rw [List.cons_append, tokS]
    rw [tokS] at h
    split at h
    · rename_i e; rw [if_pos e]; exact word_join b h
    · rename_i e
      rw [if_neg e]
      split at h
      · rename_i e2; rw [if_pos e2]; exact word_join b h
      · rename_i e2
        rw [if_neg e2]
        split at h
        · rename_i e3
          rw [if_pos e3]
          have := num_join b h
          rw [show (c :: (t0 ++ 10 :: b)).length = (c :: t0).length + (b.length + 1) by simp; omega]
          exact this
        · rename_i e3
          rw [if_neg e3]
          split at h
          · rename_i e4
            rw [if_pos e4]
            rw [show (c :: (t0 ++ 10 :: b)).length = (c :: t0).length + (b.length + 1) by simp; omega]
            exact text_join t0.length _ rfl h
          · rename_i e4
            rw [if_neg e4]
            exact sign_join b h
theorem next_join {k n p : Nat} {l t r : List UInt8} (b : List UInt8) (hk : k ≠ 0) (h : nextS l = .tok k t n p r) : nextS (l ++ 10 :: b) = .tok k t n (p + (b.length + 1)) (r ++ 10 :: b) := by
  rw [nextS] at h ⊢
  cases hs : skip false l with
  | nil => rw [hs, tokS] at h; injection h with e1; exact absurd e1.symm hk
  | cons x u =>
    rw [skip_cons false l (10 :: b) hs]
    rw [hs] at h
    exact tok_join b (by simp) h

def joined (n : Nat) (ts : List Tk) : Except (Nat × Nat) (List Tk) → Except (Nat × Nat) (List Tk)
  | .ok vs => .ok (ts.dropLast.map (Tk.up n) ++ vs)
  | .error e => .error e
theorem lexAll_join (N : Nat) : ∀ (l b : List UInt8) (ts : List Tk), l.length = N → lexAll l = .ok ts → lexAll (l ++ 10 :: b) = joined (b.length + 1) ts (lexAll b) := by
  induction N using Nat.strongRecOn with
  | _ N ih =>
    intro l b ts hN h
    rw [lexAll_step] at h
    have hf := next_fine l
    have hs := skip_len false l
    cases ho : nextS l with
    | bad t p => rw [ho] at h; simp at h
    | tok k x i p r =>
      rw [ho] at h hf
      simp only at h
      by_cases hk : k = 0
      · rw [if_pos hk] at h
        injection h with h
        subst h
        have hnil : skip false l = [] := by
          rcases hf with hf | hf
          · exact hf.2.2.2.2.2
          · omega
        have e : lexAll (l ++ 10 :: b) = lexAll b := by
          rw [lexAll_step, lexAll_step b]
          have : nextS (l ++ 10 :: b) = nextS b := by rw [nextS, nextS, skip_nil false l b hnil]
          rw [this]
        rw [e]
        cases lexAll b <;> simp [joined]
      · rw [if_neg hk] at h
        have hr : r.length < l.length := by
          rcases hf with hf | hf
          · exact absurd hf.1 hk
          · omega
        cases hl : lexAll r with
        | error e => rw [hl] at h; simp [Except.map] at h
        | ok us =>
          rw [hl] at h
          simp only [Except.map, Except.ok.injEq] at h
          subst h
          have hus : us ≠ [] := by
            have := lex_fine r
            rw [hl] at this
            obtain ⟨⟨vs, rfl⟩, _⟩ := this
            simp
          rw [lexAll_step, next_join b hk ho]
          simp only
          rw [if_neg hk, ih r.length (by omega) r b us rfl hl]
          cases lexAll b with
          | error e => simp [joined, Except.map]
          | ok vs =>
            simp only [joined, Except.map]
            rw [List.dropLast_cons_of_ne_nil hus]
            simp [Tk.up]
end Go.Proofs.YtbcmkkphbkpapaaDoor
