import Derived.Test.YtbcmkkphbkpapaaDoorLexPl
set_option linter.unusedVariables false
set_option linter.unusedSimpArgs false
namespace Go.Proofs.YtbcmkkphbkpapaaDoor
open Go.RowKit

theorem quoteL_len (s : ByteArray) (h : s.size ≤ 40) : (bytesOf (quoteL s.data.toList)).size ≤ 82 := by
  have e : (bytesOf (quoteL s.data.toList)).size = (quoteL s.data.toList).length := by simp [bytesOf, ByteArray.size]
  have h1 := escL_len s.data.toList
  have h3 : s.data.toList.length = s.size := by rw [Array.length_toList]; rfl
  rw [e, quoteL, List.length_append, List.length_cons, List.length_singleton]
  omega
theorem fine_take {s : ByteArray} {i : Nat} (h : i < s.size) : (s.data.toList.take (i + 1)).all fineB = ((s.data.toList.take i).all fineB && fineB s[i]) := by
  rw [take_succ h, List.all_append]
  simp
set_option maxHeartbeats 8000000 in
set_option maxRecDepth 100000 in
theorem quotes_short {w : World} {s : ByteArray} (hE : ErrT w) (hs : s.size ≤ 40) : Calls Tryd.prog 6 #[.string s] w (RetB w (.bool true)) := by
  have HE := hid hE
  have h40 : ¬ 40 < (s.size : Int) := by omega
  have HQL := hid (quoteL_len s hs)
  clear hE
  go_enter Tryd.func6, Tryd.ntmps6
  go_wp2_with fail
  refine (head_any _).mono ?_
  rintro e w1 ⟨rfl, hb1⟩
  have HB := hid hb1
  clear hb1
  go_wp2_with fail
  refine (Plain_any s _ (by omega)).mono ?_
  rintro e w' ⟨rfl, rfl⟩
  go_wp2_with fail
  refine (lawplain_any s _ (by omega)).mono ?_
  rintro e w' ⟨rfl, rfl⟩
  go_wp2_with fail
  refine (Quote_any s _ (by omega)).mono ?_
  rintro e w2 ⟨rfl, hb2⟩
  have HB2 := hid (HB.out.trans (hb2.mono HB.out.size))
  clear hb2
  go_wp2_with fail
  refine (lawquote_any s _ (by omega)).mono ?_
  rintro e w' ⟨rfl, rfl⟩
  go_wp2_with fail
  go_loopg [3, 4] s.size (fun g t3 t4 wr => ∃ (i : Nat) (bo : Bool), t3 = .bool bo ∧ t4 = .int .i64 (i : Int) ∧ i ≤ s.size ∧ s.size - i ≤ g ∧ Hid (bo = (s.data.toList.take i).all fineB) ∧ w2 = wr)
  case atStart => exact ⟨0, true, rfl, rfl, by omega, by omega, hid (by rfl), rfl⟩
  case round =>
    obtain ⟨i, bo, rfl, rfl, hi, hg, H, hw⟩ := hrel
    subst hw
    by_cases hlt : i < s.size
    · have hlt' : (i : Int) < (s.size : Int) := by omega
      cases bo with
      | false =>
        have HI : Hid (false = (s.data.toList.take (i + 1)).all fineB) := by show _ = _; rw [fine_take hlt, ← H.out]; rfl
        go_wp2
        go_roundg (s.size - (i + 1))
        case measure => omega
        case rel => exact ⟨i + 1, _, rfl, rfl, by omega, Nat.le_refl _, HI, rfl⟩
      | true =>
        by_cases h32 : 32 ≤ s[i].toNat
        · have HI : Hid (true = (s.data.toList.take (i + 1)).all fineB) := by show _ = _; rw [fine_take hlt, ← H.out, fineB, decide_eq_true h32]; rfl
          have d32 : decide (32 ≤ (s[i].toNat : Int)) = true := decide_eq_true (by omega)
          go_wp2
          go_roundg (s.size - (i + 1))
          case measure => omega
          case rel => exact ⟨i + 1, _, rfl, rfl, by omega, Nat.le_refl _, HI, rfl⟩
        · have d32 : decide (32 ≤ (s[i].toNat : Int)) = false := decide_eq_false (by omega)
          have HI : Hid ((((s[i].toNat : Int) == 10)) = (s.data.toList.take (i + 1)).all fineB) := by
            show _ = _
            rw [fine_take hlt, ← H.out, fineB, decide_eq_false h32]
            by_cases h10 : s[i] = 10
            · rw [show ((s[i].toNat : Int) == 10) = true from byte_eq h10, h10]; rfl
            · rw [show ((s[i].toNat : Int) == 10) = false from byte_ne h10, show (s[i] == 10) = false by simpa using h10]; rfl
          clear h32
          go_wp2
          go_roundg (s.size - (i + 1))
          case measure => omega
          case rel => exact ⟨i + 1, _, rfl, rfl, by omega, Nat.le_refl _, HI, rfl⟩
    · have hie : i = s.size := by omega
      subst hie
      have hbo := H.out
      rw [take_all] at hbo
      have HBO := hid hbo
      clear hbo
      cases bo with
      | false =>
        obtain ⟨q, hq⟩ := lex_rough s.data.toList HBO.out.symm
        have HL : Hid (lexAll (bytesOf (quoteL s.data.toList)).data.toList = .error (1, q)) := hq
        clear hq
        go_wp2_with fail
        refine (Quote_any s _ (by omega)).mono ?_
        rintro e w3 ⟨rfl, hb3⟩
        have HB3 := hid (HB2.out.trans (hb3.mono HB2.out.size))
        clear hb3
        go_wp2_with fail
        refine (All_any (by have := HQL.out; omega)).mono ?_
        rintro e w4 ⟨hb4, h⟩
        rw [HL.out] at h
        obtain ⟨f, what, rfl, hf⟩ := h
        have HF := hid hf
        have HB4 := hid (HB3.out.trans (hb4.mono HB3.out.size))
        clear hb4 hf
        go_wp2_with fail
        refine (Of_fault (HE.out.below HB4.out) HF.out).mono ?_
        rintro e w5 ⟨rfl, hb5⟩
        have HB5 := hid (HB4.out.trans (hb5.mono HB4.out.size))
        clear hb5
        go_wp2
        go_ret
        exact ⟨rfl, HB5.out⟩
      | true =>
        have HL : Hid (lexAll (bytesOf (quoteL s.data.toList)).data.toList = .ok [⟨4, s.data.toList, 0, (quoteL s.data.toList).length⟩, ⟨0, [], 0, 0⟩]) := lex_quote s.data.toList (by rw [Array.length_toList]; exact hs) HBO.out.symm
        go_wp2_with fail
        refine (Quote_any s _ (by omega)).mono ?_
        rintro e w3 ⟨rfl, hb3⟩
        have HB3 := hid (HB2.out.trans (hb3.mono HB2.out.size))
        clear hb3
        go_wp2_with fail
        refine (All_any (by have := HQL.out; omega)).mono ?_
        rintro e w4 ⟨hb4, h⟩
        rw [HL.out] at h
        obtain ⟨_, v, rfl, hown⟩ := h
        have HB4 := hid (HB3.out.trans (hb4.mono HB3.out.size))
        obtain ⟨g, cap, rfl, hcap, hgl, _, hT⟩ := toks_at hown (by simp)
        obtain ⟨a0, a1, a2, a3⟩ := hT 0 _ rfl
        have hz : ((bytesOf (quoteL s.data.toList)).size - (quoteL s.data.toList).length : Nat) = 0 := by simp [bytesOf, ByteArray.size]
        rw [hz] at a3
        simp at a0 a1 a2 a3
        rw [show bytesOf s.data.toList = s from (bytes_ext rfl).symm] at a1
        clear hT hown hb4 hz
        go_wp2
        go_ret
        exact ⟨ret_bool (by simp), HB4.out⟩
theorem quotes_long {w : World} {s : ByteArray} (h : 40 < s.size) : Calls Tryd.prog 6 #[.string s] w (RetB w (.bool true)) := by
  have h' : 40 < (s.size : Int) := by omega
  go_enter Tryd.func6, Tryd.ntmps6
  go_wp2_with fail
  refine (head_any _).mono ?_
  rintro e w1 ⟨rfl, hb1⟩
  have HB := hid hb1
  clear hb1
  go_wp2
  go_ret
  exact ⟨rfl, HB.out⟩
theorem LexQuotes_any {w : World} {s : ByteArray} (hE : ErrT w) : Calls Tryd.prog 6 #[.string s] w (RetB w (.bool true)) := by
  by_cases h : 40 < s.size
  · exact quotes_long h
  · exact quotes_short hE (by omega)
end Go.Proofs.YtbcmkkphbkpapaaDoor
