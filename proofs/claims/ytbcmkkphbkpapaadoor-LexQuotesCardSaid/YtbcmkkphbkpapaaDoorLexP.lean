import Derived.Test.YtbcmkkphbkpapaaDoorLexN
set_option linter.unusedVariables false
set_option linter.unusedSimpArgs false
namespace Go.Proofs.YtbcmkkphbkpapaaDoor
open Go.RowKit

/-! The plain law of the reader: each token takes at least a byte, and lies within. -/
/-- What a token's taking at 'l' may answer: l is what is left where it starts. -/
def Out.fine (l : List UInt8) : Out → Prop
  | .tok k t n p r => (k = 0 ∧ t = [] ∧ n = 0 ∧ p = 0 ∧ r = [] ∧ l = []) ∨ (1 ≤ k ∧ k ≤ 5 ∧ p = l.length ∧ r.length < l.length)
  | .bad tag p => (tag = 1 ∨ tag = 3) ∧ p ≤ l.length
theorem takeW_pos {f : UInt8 → Bool} {c : UInt8} {t : List UInt8} (h : f c = true) : ((c :: t).dropWhile f).length < (c :: t).length := by
  rw [List.dropWhile_cons, if_pos h]
  have := (List.dropWhile_sublist f (l := t)).length_le
  simp
  omega
theorem word_fine {k : Nat} {c : UInt8} {t : List UInt8} (hk : 1 ≤ k ∧ k ≤ 5) (h : innerB c = true) : (wordS k (c :: t)).fine (c :: t) := by
  rw [wordS]
  split
  · exact ⟨.inr rfl, Nat.le_refl _⟩
  · exact .inr ⟨hk.1, hk.2, rfl, takeW_pos h⟩
theorem num_len (p acc : Nat) (l : List UInt8) : ∀ {o}, numS p acc l = o → (o = .bad 1 p) ∨ ∃ n r, o = .tok 3 [] n p r ∧ r.length ≤ l.length := by
  induction l generalizing acc with
  | nil => intro o h; exact .inr ⟨acc, [], h.symm, Nat.le_refl _⟩
  | cons c t ih =>
    intro o h
    rw [numS] at h
    split at h
    · split at h
      · exact .inl h.symm
      · rcases ih _ h with h | ⟨n, r, h, hl⟩
        · exact .inl h
        · exact .inr ⟨n, r, h, by simp; omega⟩
    · exact .inr ⟨acc, _, h.symm, Nat.le_refl _⟩
theorem num_fine {c : UInt8} {t : List UInt8} (h : digB c = true) : (numS (c :: t).length 0 (c :: t)).fine (c :: t) := by
  rw [numS, if_pos h]
  split
  · exact ⟨.inl rfl, Nat.le_refl _⟩
  · rcases num_len _ _ t rfl with h | ⟨n, r, h, hl⟩
    · rw [h]; exact ⟨.inl rfl, Nat.le_refl _⟩
    · rw [h]; exact .inr ⟨by omega, by omega, rfl, by simp; omega⟩
theorem text_len (p : Nat) (out l : List UInt8) : (∃ q, textS p out l = .bad 1 q ∧ q ≤ l.length) ∨ textS p out l = .bad 3 p ∨ ∃ t r, textS p out l = .tok 4 t 0 p r ∧ r.length < l.length := by
  induction hn : l.length using Nat.strongRecOn generalizing l out with
  | _ n ih =>
    match l with
    | [] => exact .inl ⟨0, textS_0 _ _, by omega⟩
    | c :: t =>
      by_cases h1 : c = 34
      · rw [textS_q _ _ h1]
        split
        · exact .inr (.inl rfl)
        · exact .inr (.inr ⟨_, _, rfl, by simp at hn; omega⟩)
      · by_cases h2 : c = 92
        · match t with
          | [] => rw [textS_b0 _ _ h1 h2]; exact .inl ⟨1, rfl, by simp at hn; omega⟩
          | d :: t' =>
            rw [textS_b _ _ h1 h2]
            cases he : escB d with
            | none => exact .inl ⟨_, rfl, by simp at hn; omega⟩
            | some e =>
              have := ih t'.length (by simp at hn; omega) (out ++ [e]) t' rfl
              rcases this with ⟨q, h, hq⟩ | h | ⟨t, r, h, hr⟩
              · exact .inl ⟨q, h, by simp at hn; omega⟩
              · exact .inr (.inl h)
              · exact .inr (.inr ⟨t, r, h, by simp at hn; omega⟩)
        · rw [textS_c _ _ h1 h2]
          split
          · exact .inl ⟨_, rfl, by simp at hn; omega⟩
          · have := ih t.length (by simp at hn; omega) (out ++ [c]) t rfl
            rcases this with ⟨q, h, hq⟩ | h | ⟨t, r, h, hr⟩
            · exact .inl ⟨q, h, by simp at hn; omega⟩
            · exact .inr (.inl h)
            · exact .inr (.inr ⟨t, r, h, by simp at hn; omega⟩)
theorem text_fine {c : UInt8} {t : List UInt8} : (textS (c :: t).length [] t).fine (c :: t) := by
  rcases text_len (c :: t).length [] t with ⟨q, h, hq⟩ | h | ⟨u, r, h, hr⟩
  · rw [h]; exact ⟨.inl rfl, by simp; omega⟩
  · rw [h]; exact ⟨.inr rfl, Nat.le_refl _⟩
  · rw [h]; exact .inr ⟨by omega, by omega, rfl, by simp; omega⟩
theorem sign_fine {c : UInt8} {t : List UInt8} : (signS (c :: t)).fine (c :: t) := by
  rw [signS]
  cases h : signL.find? (fun q => Lib.hasPrefix (c :: t) q) with
  | none => exact ⟨.inl rfl, Nat.le_refl _⟩
  | some q =>
    have hm := List.mem_of_find?_eq_some h
    have hq : 1 ≤ q.length := by
      have : ∀ q ∈ signL, 1 ≤ q.length := by decide
      exact this q hm
    exact .inr ⟨by omega, by omega, rfl, by rw [List.length_drop]; simp; omega⟩
theorem tok_fine (l : List UInt8) : (tokS l).fine l := by
  match l with
  | [] => exact .inl ⟨rfl, rfl, rfl, rfl, rfl, rfl⟩
  | c :: t =>
    rw [tokS]
    split
    · rename_i h; exact word_fine (by omega) (by simp [innerB, h.1, h.2])
    · split
      · rename_i h; exact word_fine (by omega) (by simp [innerB, h.1, h.2])
      · split
        · rename_i h; exact num_fine (by simp [digB, h.1, h.2])
        · split
          · exact text_fine
          · exact sign_fine
theorem skip_len (b : Bool) (l : List UInt8) : (skip b l).length ≤ l.length := by
  induction l generalizing b with
  | nil => cases b <;> exact Nat.le_refl _
  | cons c t ih =>
    cases b
    · rw [skip]
      split
      · have := ih true; simp; omega
      · split
        · have := ih false; simp; omega
        · exact Nat.le_refl _
    · rw [skip]
      split
      · have := ih false; simp; omega
      · have := ih true; simp; omega

/-! All tokens. -/
structure Tk where
  kind : Nat
  text : List UInt8
  num : Nat
  start : Nat
def allF : Nat → List UInt8 → Except (Nat × Nat) (List Tk)
  | 0, _ => .ok []
  | n + 1, l => match nextS l with
    | .bad t p => .error (t, p)
    | .tok k x m p r => if k = 0 then .ok [⟨k, x, m, p⟩] else (allF n r).map (fun ts => ⟨k, x, m, p⟩ :: ts)
def lexAll (l : List UInt8) : Except (Nat × Nat) (List Tk) := allF (l.length + 1) l
theorem next_fine (l : List UInt8) : (nextS l).fine (skip false l) := tok_fine _
theorem all_more (n m : Nat) (l : List UInt8) (hn : l.length < n) (hm : l.length < m) : allF n l = allF m l := by
  induction n generalizing m l with
  | zero => omega
  | succ n ih =>
    cases m with
    | zero => omega
    | succ m =>
      rw [allF, allF]
      have hf := next_fine l
      have hs := skip_len false l
      cases ho : nextS l with
      | bad t p => rfl
      | tok k x i p r =>
        rw [ho] at hf
        simp only
        split
        · rfl
        · rename_i hk
          rcases hf with hf | hf
          · exact absurd hf.1 hk
          · rw [ih m r (by omega) (by omega)]
theorem lexAll_step (l : List UInt8) : lexAll l = match nextS l with
    | .bad t p => .error (t, p)
    | .tok k x m p r => if k = 0 then .ok [⟨k, x, m, p⟩] else (lexAll r).map (fun ts => ⟨k, x, m, p⟩ :: ts) := by
  rw [lexAll, allF]
  have hf := next_fine l
  have hs := skip_len false l
  cases ho : nextS l with
  | bad t p => rfl
  | tok k x i p r =>
    rw [ho] at hf
    simp only
    split
    · rfl
    · rename_i hk
      rcases hf with hf | hf
      · exact absurd hf.1 hk
      · rw [lexAll, all_more l.length (r.length + 1) r (by omega) (by omega)]

/-- What all tokens of a text are like. -/
def AllFine (l : List UInt8) : Except (Nat × Nat) (List Tk) → Prop
  | .error (t, p) => (t = 1 ∨ t = 3) ∧ p ≤ l.length
  | .ok ts => (∃ us, ts = us ++ [⟨0, [], 0, 0⟩]) ∧ ts.length ≤ l.length + 1 ∧ (∀ i a, ts[i]? = some a → a.kind ≤ 5 ∧ a.start ≤ l.length ∧ (a.kind = 0 ↔ i + 1 = ts.length)) ∧ ∀ i a b, ts[i]? = some a → ts[i + 1]? = some b → b.start < a.start
theorem lex_fine (l : List UInt8) : AllFine l (lexAll l) := by
  induction hn : l.length using Nat.strongRecOn generalizing l with
  | _ n ih =>
    rw [lexAll_step]
    have hf := next_fine l
    have hs := skip_len false l
    cases ho : nextS l with
    | bad t p =>
      rw [ho] at hf
      exact ⟨hf.1, Nat.le_trans hf.2 hs⟩
    | tok k x i p r =>
      rw [ho] at hf
      simp only
      rcases hf with ⟨rfl, rfl, rfl, rfl, rfl, _⟩ | ⟨h1, h2, h3, h4⟩
      · rw [if_pos rfl]
        refine ⟨⟨[], rfl⟩, by simp, ?_, ?_⟩
        · intro i a h
          match i, h with
          | 0, h => simp at h; subst h; simp
        · intro i a b h h'
          simp at h'
      · rw [if_neg (by omega)]
        have hr := ih r.length (by omega) r rfl
        cases hl : lexAll r with
        | error e =>
          rw [hl] at hr
          obtain ⟨t, q⟩ := e
          exact ⟨hr.1, by have := hr.2; omega⟩
        | ok ts =>
          rw [hl] at hr
          obtain ⟨⟨us, rfl⟩, hlen, ha, hb⟩ := hr
          refine ⟨⟨⟨k, x, i, p⟩ :: us, rfl⟩, by simp at hlen ⊢; omega, ?_, ?_⟩
          · intro j a h
            cases j with
            | zero => simp at h; subst h; simp; omega
            | succ j =>
              have := ha j a (by simpa using h)
              refine ⟨this.1, by omega, ?_⟩
              rw [this.2.2]
              simp
          · intro j a b h h'
            cases j with
            | zero =>
              simp at h
              subst h
              have := (ha 0 b (by simpa using h')).2.1
              simp
              omega
            | succ j => exact hb j a b (by simpa using h) (by simpa using h')

end Go.Proofs.YtbcmkkphbkpapaaDoor
