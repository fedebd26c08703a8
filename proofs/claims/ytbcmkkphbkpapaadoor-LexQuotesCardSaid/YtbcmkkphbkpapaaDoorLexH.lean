import Derived.Test.YtbcmkkphbkpapaaDoorLexQ
set_option linter.unusedVariables false
set_option linter.unusedSimpArgs false
namespace Go.Proofs.YtbcmkkphbkpapaaDoor
open Go.RowKit

set_option maxRecDepth 100000 in
theorem head_toks : lexAll [112, 40, 88, 44, 34, 97, 34, 41, 46] = .ok [⟨1, [112], 0, 9⟩, ⟨5, [40], 0, 8⟩, ⟨2, [88], 0, 7⟩, ⟨5, [44], 0, 6⟩, ⟨4, [97], 0, 5⟩, ⟨5, [41], 0, 2⟩, ⟨5, [46], 0, 1⟩, ⟨0, [], 0, 0⟩] := by
  simp [lexAll, allF, nextS, tokS, skip, blankB, wordS, signS, signL, Lib.hasPrefix, List.isPrefixOf, textS_q, textS_c, innerB, List.takeWhile, List.dropWhile, Except.map]

theorem tks_get (sz : Nat) (ts : List Tk) (i j : Nat) (t : Tk) (h : ts[i]? = some t) (hj : j < 4) : (tksCells sz ts)[i * 4 + j]? = (tkCells sz t)[j]? := by
  induction ts generalizing i with
  | nil => simp at h
  | cons a ts ih =>
    have e : tksCells sz (a :: ts) = tkCells sz a ++ tksCells sz ts := by simp [tksCells]
    have hl : (tkCells sz a).length = 4 := rfl
    rw [e]
    cases i with
    | zero =>
      simp only [List.getElem?_cons_zero, Option.some.injEq] at h
      subst h
      rw [List.getElem?_append_left (by rw [hl]; omega)]
      simp
    | succ i =>
      simp only [List.getElem?_cons_succ] at h
      rw [List.getElem?_append_right (by rw [hl]; omega), hl, ← ih i h]
      congr 1
      omega
/-- The tokens' cells. -/
def TksAt (w : World) (g sz : Nat) (ts : List Tk) : Prop := ∀ i t, ts[i]? = some t → w.cell? ⟨g, i * 4, none⟩ = some (.int .i64 (t.kind : Int)) ∧ w.cell? ⟨g, i * 4 + 1, none⟩ = some (.string (bytesOf t.text)) ∧ w.cell? ⟨g, i * 4 + 2, none⟩ = some (.int .u64 (t.num : Int)) ∧ w.cell? ⟨g, i * 4 + 3, none⟩ = some (.int .i64 ((sz - t.start : Nat) : Int))
theorem toks_at {w : World} {B sz : Nat} {ts : List Tk} {v : Value} (h : w.ownsRow B 38 4 v ts.length (tksCells sz ts)) (hne : ts ≠ []) : ∃ g cap, v = .slice (some ⟨g, 0, none⟩) ts.length cap ∧ ts.length ≤ cap ∧ g < w.heap.size ∧ B ≤ g ∧ TksAt w g sz ts := by
  have hl := own_lt h
  have h' := h
  rcases h.2 with ⟨_, h0⟩ | ⟨g, cap, cur, rfl, _, _, hcap, _⟩
  · exact absurd (List.eq_nil_of_length_eq_zero h0) hne
  · have hc := h'.cells (g := g) rfl
    refine ⟨g, cap, rfl, hcap, (hl g rfl).1, (hl g rfl).2, fun i t ht => ?_⟩
    have k : ∀ j, j < 4 → w.cell? ⟨g, i * 4 + j, none⟩ = (tkCells sz t)[j]? := by
      intro j hj
      have hx := tks_get sz ts i j t ht hj
      have hy : (tkCells sz t)[j]? = some ((tkCells sz t)[j]'(by show j < 4; exact hj)) := List.getElem?_eq_getElem _
      have := hc _ _ (hx.trans hy)
      rw [addr_add, Nat.zero_add] at this
      rw [this, hy]
    exact ⟨k 0 (by decide), k 1 (by decide), k 2 (by decide), k 3 (by decide)⟩

set_option maxHeartbeats 8000000 in
set_option maxRecDepth 100000 in
theorem head_any (w : World) : Calls Tryd.prog 11 #[] w (RetB w (.bool true)) := by
  have HA := hid (All_any (w := w) (s := ⟨#[112, 40, 88, 44, 34, 97, 34, 41, 46]⟩) (by decide))
  go_enter Tryd.func11, Tryd.ntmps11
  go_wp2_with fail
  refine HA.out.mono ?_
  rintro e w1 ⟨hb, h⟩
  rw [head_toks] at h
  obtain ⟨_, v, rfl, hown⟩ := h
  have HB := hid hb
  obtain ⟨g, cap, rfl, hcap, hg, _, hc⟩ := toks_at hown (by simp)
  have k7 := hc 7 _ rfl
  have k4 := hc 4 _ rfl
  obtain ⟨a0, a1, a2, a3⟩ := k7
  obtain ⟨b0, b1, b2, b3⟩ := k4
  simp at hcap
  have a3' : w1.cell? ⟨g, 31, none⟩ = some (.int .i64 9) := a3
  have b3' : w1.cell? ⟨g, 19, none⟩ = some (.int .i64 4) := b3
  simp at a0 a1 a2 b0 b1 b2
  clear hc hown hb a3 b3
  go_wp2
  go_ret
  exact ⟨rfl, HB.out⟩

end Go.Proofs.YtbcmkkphbkpapaaDoor
