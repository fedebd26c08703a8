import Derived.Test.YtdbpboipiceifaaDoorZ1PSPx2
import Derived.Test.YtdbpboipiceifaaDoorZ1PSPx8
import Derived.Test.YtdbpboipiceifaaDoorZ1PSPx12
import Derived.Lib.ItoaLen
import Derived.Laws.Strings
set_option linter.unusedVariables false
set_option linter.unusedSimpArgs false
namespace Go.Proofs.YtdbpboipiceifaaDoorPSP
open Go.RowKit Go.Extern.Stop Go.Stop Go.Extern Go.Proofs.YtdbpboipiceifaaDoorW.PrintWords Go.Proofs.YtdbpboipiceifaaDoor
theorem up {α : Type} {f : Nat → Option α} (hm : ∀ k, LeO (f k) (f (k + 1))) {k0 : Nat} {v : α} (h : f k0 = some v) : ∀ k, k0 ≤ k → f k = some v := by
  intro k hk
  obtain ⟨j, rfl⟩ : ∃ j, k = k0 + j := ⟨k - k0, by omega⟩
  clear hk
  induction j with
  | zero => exact h
  | succ j ih => exact hm (k0 + j) v ih
def TOk (t : S53) : Prop :=
  (t.f0 = 1 ∧ -9223372036854775808 ≤ t.f2 ∧ t.f2 ≤ 9223372036854775807) ∨ (t.f0 = 0 ∧ ∃ n, n < 6 ∧ t.f1 = bytesL (varL.getD n [])) ∨ (t.f0 = 2 ∧ ∃ n, n < 6 ∧ t.f1 = bytesL (symL.getD n []))
theorem term_ok (K N B : Int) (h0 : -9223372036854775808 ≤ B) (h1 : B ≤ 9223372036854775807) : TOk ⟨(termV K N B).1, (termV K N B).2.1, (termV K N B).2.2⟩ := by
  obtain ⟨hn, _⟩ := md_is N 6 (by decide) (by decide)
  unfold termV
  generalize md N 6 = n at hn ⊢
  split
  · refine .inl ⟨rfl, ?_⟩
    show -9223372036854775808 ≤ (if (Go.bits .and .i64 N 64 == 64) = true then B else (n : Int) - 2) ∧ (if (Go.bits .and .i64 N 64 == 64) = true then B else (n : Int) - 2) ≤ 9223372036854775807
    split <;> omega
  · split
    · exact .inr (.inr ⟨rfl, n, by omega, rfl⟩)
    · exact .inr (.inl ⟨rfl, n, by omega, rfl⟩)
theorem between_is (a b c : Int) : lex_between.f a b c = some (decide (b ≤ a) && decide (a ≤ c)) := by
  unfold lex_between.f
  split
  · rename_i h; rw [decide_eq_true (show b ≤ a from h)]; rfl
  · rename_i h; rw [decide_eq_false (show ¬ b ≤ a from h)]; rfl
def innerB (c : Int) : Bool := (decide (97 ≤ c) && decide (c ≤ 122)) || (decide (65 ≤ c) && decide (c ≤ 90)) || (decide (48 ≤ c) && decide (c ≤ 57)) || (c == 95)
theorem inner_is (c : Int) : lex_inner.f c = some (innerB c) := by
  unfold lex_inner.f innerB
  rw [between_is, between_is, between_is]
  simp only [Option.bind_some]
  generalize (decide (97 ≤ c) && decide (c ≤ 122)) = p
  generalize (decide (65 ≤ c) && decide (c ≤ 90)) = q
  generalize (decide (48 ≤ c) && decide (c ≤ 57)) = r
  cases p <;> cases q <;> cases r <;> rfl
theorem plain_l0 (x : ByteArray) (hx : x.size < 1000000) : ∀ (d i k : Nat), i + d = x.size → d < k → lex_Plain.l0 k x (x.size : Int) (i : Int) = some ((List.range' i d).all fun j => innerB (bt x (j : Int))) := by
  intro d
  induction d with
  | zero =>
    intro i k hi hk
    obtain ⟨k, rfl⟩ : ∃ m, k = m + 1 := ⟨k - 1, by omega⟩
    rw [lex_Plain.l0, if_neg (by omega)]
    rfl
  | succ d ih =>
    intro i k hi hk
    obtain ⟨k, rfl⟩ : ∃ m, k = m + 1 := ⟨k - 1, by omega⟩
    rw [lex_Plain.l0, if_pos (by omega), if_pos (by omega), if_pos (by omega), inner_is]
    simp only [Option.bind_some]
    have e : wrap64 ((i : Int) + 1) = ((i + 1 : Nat) : Int) := by unfold wrap64; omega
    rw [e, List.range'_succ, List.all_cons]
    cases hb : innerB (bt x (i : Int)) with
    | true => rw [if_pos rfl, ih (i + 1) k (by omega) (by omega)]; rfl
    | false => rw [if_neg (by decide)]; rfl
def plB (x : ByteArray) : Bool := if x.data.toList = [] then false else if x.data.toList = [110, 111, 116] then false else if (decide (97 ≤ bt x 0) && decide (bt x 0 ≤ 122)) then (List.range' 0 x.size).all fun j => innerB (bt x (j : Int)) else false
theorem plain_is (x : ByteArray) (hx : x.size < 1000000) : ∀ k, x.size + 2 ≤ k → lex_Plain.f k x = some (plB x) := by
  intro k hk
  obtain ⟨k, rfl⟩ : ∃ m, k = m + 1 := ⟨k - 1, by omega⟩
  unfold lex_Plain.f plB
  rw [ByteArray.toList_eq]
  split
  · rw [lex_Plain.j0, if_pos rfl]
  · rename_i h0
    split
    · rw [lex_Plain.j0, if_pos rfl]
    · rw [if_pos (by
        have : x.size = x.data.toList.length := by rw [Array.length_toList]; rfl
        cases hq : x.data.toList with
        | nil => exact absurd hq h0
        | cons a l => rw [hq] at this; simp at this; omega), between_is]
      simp only [Option.bind_some]
      cases hb : (decide (97 ≤ bt x 0) && decide (bt x 0 ≤ 122)) with
      | true =>
        rw [if_pos rfl, lex_Plain.j0, if_neg (by decide)]
        exact plain_l0 x hx x.size 0 k (by omega) (by omega)
      | false =>
        rw [if_neg (by decide), lex_Plain.j0, if_pos (by rfl)]
def symOut : List (List UInt8) := [[97], [98], [34, 110, 111, 116, 34], [34, 65, 32, 98, 34], [109, 105, 110], [34, 120, 92, 110, 92, 34, 121, 92, 92, 34]]
theorem text_same : ∀ k a b c, ergolaw13_text.f k a b c = syntax_Term_String.f k a b c := fun _ _ _ _ => rfl
theorem term_ev (t : S53) (h : TOk t) : ∃ s : ByteArray, s.size ≤ 24 ∧ ∀ k, 40 ≤ k → syntax_Term_String.f k t.f0 t.f1 t.f2 = some s := by
  obtain ⟨f0, f1, f2⟩ := t
  rcases h with ⟨h0, h1, h2⟩ | ⟨h0, n, hn, h1⟩ | ⟨h0, n, hn, h1⟩
  · simp only at h0 h1 h2
    subst h0
    refine ⟨bytesL (Lib.itoa f2), ?_, fun k _ => ?_⟩
    · have := Lib.itoa_length_le f2 h1 h2
      show (bytesL (Lib.itoa f2)).size ≤ 24
      have e : (bytesL (Lib.itoa f2)).size = (Lib.itoa f2).length := rfl
      omega
    · unfold syntax_Term_String.f strconv_FormatInt.f
      rw [if_pos rfl, if_pos ⟨h1, h2, rfl⟩]
      rfl
  · simp only at h0 h1
    subst h0
    subst h1
    refine ⟨bytesL (varL.getD n []), ?_, fun k _ => ?_⟩
    · have hc : n = 0 ∨ n = 1 ∨ n = 2 ∨ n = 3 ∨ n = 4 ∨ n = 5 := by omega
      rcases hc with rfl | rfl | rfl | rfl | rfl | rfl <;> decide
    · show syntax_Term_String.f k 0 _ _ = _
      unfold syntax_Term_String.f
      rw [if_neg (by decide), if_pos rfl]
  · simp only at h0 h1
    subst h0
    subst h1
    refine ⟨bytesL (symOut.getD n []), ?_, up (fun k => syntax_Term_String.mono _ _ _ k) ?_⟩
    · have hc : n = 0 ∨ n = 1 ∨ n = 2 ∨ n = 3 ∨ n = 4 ∨ n = 5 := by omega
      rcases hc with rfl | rfl | rfl | rfl | rfl | rfl <;> decide
    · have hc : n = 0 ∨ n = 1 ∨ n = 2 ∨ n = 3 ∨ n = 4 ∨ n = 5 := by omega
      rcases hc with rfl | rfl | rfl | rfl | rfl | rfl
      all_goals
        dsimp only
        unfold syntax_Term_String.f
        rw [if_neg (by decide), if_neg (by decide), plain_is _ (by decide) 40 (by decide)]
        rfl
def termS (t : S53) : ByteArray := (syntax_Term_String.f 40 t.f0 t.f1 t.f2).getD ⟨#[]⟩
theorem termS_is {t : S53} (h : TOk t) : (termS t).size ≤ 24 ∧ ∀ k, 40 ≤ k → syntax_Term_String.f k t.f0 t.f1 t.f2 = some (termS t) := by
  obtain ⟨s, h1, h2⟩ := term_ev t h
  have e : termS t = s := by unfold termS; rw [h2 40 (Nat.le_refl _)]; rfl
  rw [e]
  exact ⟨h1, h2⟩
abbrev toL (b : ByteArray) : List UInt8 := b.data.toList
theorem toL_bytesL (l : List UInt8) : toL (bytesL l) = l := by simp [toL]
theorem bytesL_toL (b : ByteArray) : bytesL (toL b) = b := rfl
theorem bytesL_append (l m : List UInt8) : bytesL l ++ bytesL m = bytesL (l ++ m) := by
  apply ByteArray.ext
  simp
theorem size_L (b : ByteArray) : b.size = (toL b).length := by unfold toL; rw [Array.length_toList]; rfl
def argsL : List S53 → Bool → List UInt8
  | [], _ => []
  | t :: ts, first => (if first then [] else [44]) ++ toL (termS t) ++ argsL ts false
theorem argsL_false (l : List S53) : argsL l false = Lib.joinTail [44] (l.map fun t => toL (termS t)) := by
  induction l with
  | nil => rfl
  | cons t ts ih =>
    unfold argsL
    rw [ih]
    simp [Lib.joinTail]
theorem argsL_true (l : List S53) : argsL l true = Lib.join (l.map fun t => toL (termS t)) [44] := by
  cases l with
  | nil => rfl
  | cons t ts =>
    unfold argsL
    rw [argsL_false, List.map_cons, Lib.join_cons]
    simp
theorem argsL_len (l : List S53) (h : ∀ t ∈ l, TOk t) (b : Bool) : (argsL l b).length ≤ 25 * l.length := by
  induction l generalizing b with
  | nil => simp [argsL]
  | cons t ts ih =>
    unfold argsL
    have h1 := ih (fun t ht => h t (List.mem_cons_of_mem _ ht)) false
    have h2 := (termS_is (h t List.mem_cons_self)).1
    rw [size_L] at h2
    simp only [List.length_append, List.length_cons]
    cases b
    · simp only [Bool.false_eq_true, if_false, List.length_cons, List.length_nil]; omega
    · simp only [if_true, List.length_nil]; omega
def atomL (p : List UInt8) (l : List S53) : List UInt8 := p ++ [40] ++ argsL l true ++ [41]
theorem rd55 (l : List S53) (i : Nat) (h : i < l.length) : rd_T53 l (i : Int) = l[i] := by
  unfold rd_T53
  rw [Int.toNat_natCast, List.getD_eq_getElem?_getD, List.getElem?_eq_getElem h]
  rfl
theorem w64 (n : Nat) (h : n < 1000000) : wrap64 ((n : Int) + 1) = ((n + 1 : Nat) : Int) := by unfold wrap64; omega
theorem atom_l0 (l : List S53) (hl : l.length ≤ 1000) (h : ∀ t ∈ l, TOk t) : ∀ (d i : Nat) (x : List UInt8) (k : Nat), i + d = l.length → x.length ≤ 200 + 25 * i → 41 + d ≤ k →
    ergolaw13_atom.l0 k (bytesL x) l (l.length : Int) (i : Int) = some (bytesL (x ++ argsL (l.drop i) (decide (i = 0)) ++ [41])) := by
  intro d
  induction d with
  | zero =>
    intro i x k hi hx hk
    obtain ⟨k, rfl⟩ : ∃ m, k = m + 1 := ⟨k - 1, by omega⟩
    have e : (bytesL x).size = x.length := rfl
    rw [ergolaw13_atom.l0, if_neg (by omega), if_pos (by omega), List.drop_eq_nil_of_le (by omega)]
    exact congrArg some ((bytesL_append x [41]).trans (by simp [argsL]))
  | succ d ih =>
    intro i x k hi hx hk
    obtain ⟨k, rfl⟩ : ∃ m, k = m + 1 := ⟨k - 1, by omega⟩
    have e : (bytesL x).size = x.length := rfl
    have hlt : i < l.length := by omega
    obtain ⟨hs, ht⟩ := termS_is (h _ (List.getElem_mem hlt))
    have hdrop : l.drop i = l[i] :: l.drop (i + 1) := List.drop_eq_getElem_cons hlt
    rw [ergolaw13_atom.l0, if_pos (by omega), if_pos (by omega), if_pos (by omega), rd55 l i hlt, w64 i (by omega), text_same, ht k (by omega)]
    rw [size_L] at hs
    have es : bytesL x ++ termS l[i] = bytesL (x ++ toL (termS l[i])) := bytesL_append x (toL (termS l[i]))
    by_cases h0 : i = 0
    · subst h0
      rw [if_neg (by decide)]
      simp only [Option.bind_some]
      rw [if_pos (by rw [size_L (termS _)]; omega), es, ih 1 _ k (by omega) (by simp only [List.length_append]; omega) (by omega), hdrop]
      simp [argsL]
    · rw [if_pos (by omega), if_pos (by omega)]
      simp only [Option.bind_some]
      have e1 : bytesL x ++ (⟨#[44]⟩ : ByteArray) = bytesL (x ++ [44]) := bytesL_append x [44]
      have e2 : bytesL (x ++ [44]) ++ termS l[i] = bytesL (x ++ [44] ++ toL (termS l[i])) := bytesL_append _ (toL (termS l[i]))
      have e3 : (bytesL (x ++ [44])).size = x.length + 1 := by show (x ++ [44]).length = _; simp
      rw [e1, if_pos (by rw [size_L (termS _), e3]; omega), e2, ih (i + 1) _ k (by omega) (by simp only [List.length_append, List.length_cons, List.length_nil]; omega) (by omega), hdrop]
      simp [argsL, h0]
theorem Atom_l0 (p : List UInt8) (hp : p.length ≤ 100) (l : List S53) (hl : l.length ≤ 1000) (h : ∀ t ∈ l, TOk t) : ∀ (d i : Nat) (k : Nat), i + d = l.length → 41 + d ≤ k →
    syntax_Atom_String.l0 k ((l.take i).map termS) l (l.length : Int) (i : Int) (bytesL p) l = some (bytesL (atomL p l)) := by
  intro d
  induction d with
  | zero =>
    intro i k hi hk
    obtain ⟨k, rfl⟩ : ∃ m, k = m + 1 := ⟨k - 1, by omega⟩
    have e : (bytesL p).size = p.length := rfl
    have hj : ((l.take i).map termS).map (·.data.toList) = l.map fun t => toL (termS t) := by
      rw [List.take_of_length_le (by omega), List.map_map]
      rfl
    have hlen := argsL_len l h true
    have e1 : bytesL p ++ (⟨#[40]⟩ : ByteArray) = bytesL (p ++ [40]) := bytesL_append p [40]
    have e3 : (bytesL (p ++ [40])).size = p.length + 1 := by show (p ++ [40]).length = _; simp
    rw [syntax_Atom_String.l0, if_neg (by omega), if_pos (by omega)]
    unfold strings_Join.f
    rw [hj, show (⟨#[44]⟩ : ByteArray).data.toList = [44] from rfl, ← argsL_true, if_pos ⟨by simp; omega, by omega⟩]
    simp only [Option.bind_some]
    have e4 : (bytesL (argsL l true)).size = (argsL l true).length := rfl
    rw [e1, if_pos (by omega), bytesL_append, if_pos (by
      have : (bytesL (p ++ [40] ++ argsL l true)).size = p.length + 1 + (argsL l true).length := by show (p ++ [40] ++ argsL l true).length = _; simp; omega
      omega)]
    exact congrArg some (bytesL_append _ [41])
  | succ d ih =>
    intro i k hi hk
    obtain ⟨k, rfl⟩ : ∃ m, k = m + 1 := ⟨k - 1, by omega⟩
    have hlt : i < l.length := by omega
    obtain ⟨hs, ht⟩ := termS_is (h _ (List.getElem_mem hlt))
    rw [syntax_Atom_String.l0, if_pos (by omega), if_pos (by omega), if_pos (by omega), rd55 l i hlt, w64 i (by omega), ht k (by omega)]
    simp only [Option.bind_some]
    rw [if_pos (by simp; omega)]
    have e : (l.take i).map termS ++ [termS l[i]] = (l.take (i + 1)).map termS := by
      rw [List.take_add_one, List.getElem?_eq_getElem hlt, List.map_append]
      rfl
    rw [e]
    exact ih (i + 1) k (by omega) (by omega)
theorem Atom_is {p : List UInt8} (hp : p.length ≤ 100) {l : List S53} (hl : l.length ≤ 1000) (h : ∀ t ∈ l, TOk t) : ∀ k, 1041 ≤ k →
    syntax_Atom_String.f k (bytesL p) l = some (bytesL (atomL p l)) ∧ ergolaw13_atom.f k (bytesL p) l = some (bytesL (atomL p l)) := by
  intro k hk
  refine ⟨Atom_l0 p hp l hl h l.length 0 k (by omega) (by omega), ?_⟩
  have e : (bytesL p).size = p.length := rfl
  unfold ergolaw13_atom.f
  rw [if_pos (by omega)]
  have e1 : bytesL p ++ (⟨#[40]⟩ : ByteArray) = bytesL (p ++ [40]) := bytesL_append p [40]
  rw [e1]
  exact atom_l0 l hl h l.length 0 (p ++ [40]) k (by omega) (by simp; omega) (by omega)
end Go.Proofs.YtdbpboipiceifaaDoorPSP
