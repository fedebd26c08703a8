import Derived.Test.YtbcmkkphbkpapaaDoorLexK
set_option linter.unusedVariables false
set_option linter.unusedSimpArgs false
namespace Go.Proofs.YtbcmkkphbkpapaaDoor
open Go.RowKit

/-! Which texts are names. -/
def lowB (c : UInt8) : Bool := decide (97 ≤ c.toNat) && decide (c.toNat ≤ 122)
def headB : List UInt8 → Bool
  | [] => false
  | c :: _ => lowB c
def plainB (l : List UInt8) : Bool := headB l && l.all innerB && !(l == [110, 111, 116])
theorem all_take {s : ByteArray} {i : Nat} (h : i < s.size) : (s.data.toList.take (i + 1)).all innerB = ((s.data.toList.take i).all innerB && innerB s[i]) := by
  rw [take_succ h, List.all_append]
  simp
theorem all_bad {s : ByteArray} {i : Nat} (h : i < s.size) (hi : innerB s[i] = false) : s.data.toList.all innerB = false := by
  rw [List.all_eq_false]
  exact ⟨s[i], by rw [Array.mem_toList_iff]; exact Array.getElem_mem (xs := s.data) h, by rw [hi]; decide⟩
theorem low_inner {c : UInt8} (h : lowB c = true) : innerB c = true := by
  unfold lowB at h
  simp only [Bool.and_eq_true, decide_eq_true_iff] at h
  simp [innerB, h]
theorem head_at {s : ByteArray} (h : 0 < s.size) : headB s.data.toList = lowB s[0] := by
  have := drop_at (s := s) (k := 0) h
  rw [List.drop_zero] at this
  rw [this]
  rfl
theorem toList_data (s : ByteArray) : s.toList = s.data.toList := ByteArray.toList_eq s

/-! lex.Plain -/
set_option maxHeartbeats 4000000 in
set_option maxRecDepth 100000 in
theorem Plain_any (s : ByteArray) (w : World) (hs : s.size ≤ 1073741824) : Calls Tryd.prog 15 #[.string s] w (RetS w (.bool (plainB s.data.toList))) := by
  by_cases h0 : s.size = 0
  · have hn : s.toList = [] := by rw [toList_data]; exact List.eq_nil_of_length_eq_zero (by rw [Array.length_toList]; exact h0)
    have hp : Hid (plainB s.data.toList = false) := by show _ = _; rw [← toList_data, hn]; rfl
    have he : s.toList.isEmpty = true := by rw [hn]; rfl
    clear h0
    go_enter Tryd.func15, Tryd.ntmps15
    go_wp2
    go_ret
    exact ⟨by rw [hp.out]; rfl, rfl⟩
  · have hpos : 0 < s.size := by omega
    have hn : ¬ s.toList = [] := by
      rw [toList_data]
      intro h
      have : s.data.toList.length = 0 := by rw [h]; rfl
      rw [Array.length_toList] at this
      exact h0 this
    have he : s.toList.isEmpty = false := by simpa using hn
    clear h0
    by_cases hnot : s.data.toList = [110, 111, 116]
    · have hp : Hid (plainB s.data.toList = false) := by show _ = _; rw [hnot]; rfl
      have hq : (s.toList == [110, 111, 116]) = true := by rw [toList_data, hnot]; rfl
      have hq2 : s.toList = [110, 111, 116] := by rw [toList_data, hnot]
      clear hnot
      go_enter Tryd.func15, Tryd.ntmps15
      go_wp2
      go_ret
      exact ⟨by rw [hp.out]; rfl, rfl⟩
    · have hq : (s.toList == [110, 111, 116]) = false := by rw [toList_data]; simpa using hnot
      have hq2 : ¬ s.toList = [110, 111, 116] := by rw [toList_data]; exact hnot
      have HN : Hid ((s.data.toList == [110, 111, 116]) = false) := by show _ = _; simpa using hnot
      clear hnot
      by_cases hl : lowB s[0] = true
      · have HP : Hid (headB s.data.toList = true) := by show _ = _; rw [head_at hpos]; exact hl
        have hl2 : 97 ≤ s[0].toNat ∧ s[0].toNat ≤ 122 := by unfold lowB at hl; simpa using hl
        obtain ⟨hl3, hl4⟩ := hl2
        clear hl
        go_enter Tryd.func15, Tryd.ntmps15
        go_wp2_with fail
        refine (between_true (by omega) (by omega)).mono ?_
        rintro e w' ⟨rfl, rfl⟩
        go_wp2_with fail
        go_loopg [18] s.size (fun g t18 wr => ∃ (i : Nat), t18 = .int .i64 (i : Int) ∧ i ≤ s.size ∧ s.size - i ≤ g ∧ Hid ((s.data.toList.take i).all innerB = true) ∧ w = wr)
        case atStart => exact ⟨0, rfl, by omega, by omega, hid (by rfl), rfl⟩
        case round =>
          obtain ⟨i, rfl, hi, hg, H, hw⟩ := hrel
          subst hw
          by_cases hlt : i < s.size
          · have hlt' : (i : Int) < (s.size : Int) := by omega
            cases hin : innerB s[i] with
            | true =>
              have HI : Hid ((s.data.toList.take (i + 1)).all innerB = true) := by show _ = _; rw [all_take hlt, H.out, hin]; rfl
              have HIN := hid hin
              clear hin
              go_wp2_with fail
              refine (inner_any _ _).mono ?_
              rintro e w' ⟨rfl, rfl⟩
              rw [HIN.out]
              go_wp2
              go_roundg (s.size - (i + 1))
              case measure => omega
              case rel => exact ⟨i + 1, rfl, by omega, Nat.le_refl _, HI, rfl⟩
            | false =>
              have HI : Hid (plainB s.data.toList = false) := by show _ = _; rw [plainB, all_bad hlt hin]; simp
              have HIN := hid hin
              clear hin
              go_wp2_with fail
              refine (inner_any _ _).mono ?_
              rintro e w' ⟨rfl, rfl⟩
              rw [HIN.out]
              go_wp2
              go_ret
              exact ⟨by rw [HI.out]; rfl, rfl⟩
          · have hie : i = s.size := by omega
            subst hie
            go_wp2
            go_ret
            have HA := H.out
            rw [take_all] at HA
            exact ⟨by rw [plainB, HP.out, HA, HN.out]; rfl, rfl⟩
      · have hp : Hid (plainB s.data.toList = false) := by show _ = _; rw [plainB, head_at hpos, Bool.eq_false_iff.2 hl]; rfl
        have hl2 : (s[0].toNat : Int) < 97 ∨ 122 < (s[0].toNat : Int) := by
          unfold lowB at hl
          simp only [Bool.and_eq_true, decide_eq_true_iff] at hl
          omega
        have HL := hid hl2
        clear hl hl2
        go_enter Tryd.func15, Tryd.ntmps15
        go_wp2_with fail
        refine (between_false HL.out).mono ?_
        rintro e w' ⟨rfl, rfl⟩
        go_wp2
        go_ret
        exact ⟨by rw [hp.out]; rfl, rfl⟩

/-! ergolaw12.plain -/
theorem inner_ways {c : UInt8} (hl : lowB c = false) : (innerB c = true ∧ ((48 ≤ c.toNat ∧ c.toNat ≤ 57) ∨ (65 ≤ c.toNat ∧ c.toNat ≤ 90) ∨ c.toNat = 95)) ∨
    (innerB c = false ∧ (c.toNat < 48 ∨ (58 ≤ c.toNat ∧ c.toNat ≤ 64) ∨ (91 ≤ c.toNat ∧ c.toNat ≤ 94) ∨ c.toNat = 96 ∨ 123 ≤ c.toNat)) := by
  cases h : innerB c with
  | true =>
    refine .inl ⟨rfl, ?_⟩
    unfold lowB at hl
    unfold innerB at h
    simp at hl h
    omega
  | false =>
    refine .inr ⟨rfl, ?_⟩
    unfold lowB at hl
    unfold innerB at h
    simp at hl h
    omega
set_option maxHeartbeats 8000000 in
set_option maxRecDepth 100000 in
theorem lawplain_any (s : ByteArray) (w : World) (hs : s.size ≤ 1073741824) : Calls Tryd.prog 16 #[.string s] w (RetS w (.bool (plainB s.data.toList))) := by
  go_enter Tryd.func16, Tryd.ntmps16
  go_wp2_with fail
  go_loopg [3] s.size (fun g t3 wr => ∃ (i : Nat), t3 = .int .i64 (i : Int) ∧ i ≤ s.size ∧ s.size - i ≤ g ∧ Hid ((s.data.toList.take i).all innerB = true ∧ (0 < i → headB s.data.toList = true)) ∧ w = wr)
  case atStart => exact ⟨0, rfl, by omega, by omega, hid ⟨by rfl, by omega⟩, rfl⟩
  case round =>
    obtain ⟨i, rfl, hi, hg, H, hw⟩ := hrel
    subst hw
    by_cases hlt : i < s.size
    · have hlt' : (i : Int) < (s.size : Int) := by omega
      cases hl : lowB s[i] with
      | true =>
        have HI : Hid ((s.data.toList.take (i + 1)).all innerB = true ∧ (0 < i + 1 → headB s.data.toList = true)) := by
          refine ⟨by rw [all_take hlt, H.out.1, low_inner hl]; rfl, fun _ => ?_⟩
          by_cases h0 : i = 0
          · subst h0; rw [head_at hlt]; exact hl
          · exact H.out.2 (by omega)
        have hl2 : 97 ≤ s[i].toNat ∧ s[i].toNat ≤ 122 := by unfold lowB at hl; simpa using hl
        obtain ⟨hl3, hl4⟩ := hl2
        clear hl
        go_wp2
        go_roundg (s.size - (i + 1))
        case measure => omega
        case rel => exact ⟨i + 1, rfl, by omega, Nat.le_refl _, HI, rfl⟩
      | false =>
        have hw1 : s[i].toNat < 97 ∨ 123 ≤ s[i].toNat := by
          unfold lowB at hl; simp at hl; omega
        have hways := inner_ways hl
        by_cases h0 : i = 0
        · subst h0
          have HP : Hid (plainB s.data.toList = false) := by show _ = _; rw [plainB, head_at hlt, hl]; rfl
          clear hl hways
          rcases hw1 with h | h
          · go_wp2
            go_ret
            exact ⟨by rw [HP.out]; rfl, rfl⟩
          · have d122 : decide ((s[0].toNat : Int) ≤ 122) = false := decide_eq_false (by omega)
            go_wp2
            go_ret
            exact ⟨by rw [HP.out]; rfl, rfl⟩
        · have e0 : ((i : Int) == 0) = false := by simpa using h0
          have hpos : 0 < i := by omega
          clear hw1 h0
          rcases hways with ⟨hin, hways⟩ | ⟨hin, hways⟩
          · have HI : Hid ((s.data.toList.take (i + 1)).all innerB = true ∧ (0 < i + 1 → headB s.data.toList = true)) :=
              ⟨by rw [all_take hlt, H.out.1, hin]; rfl, fun _ => H.out.2 hpos⟩
            clear hl hin
            rcases hways with ⟨h1, h2⟩ | ⟨h1, h2⟩ | h1
            · have d57 : decide ((s[i].toNat : Int) ≤ 57) = true := decide_eq_true (by omega)
              go_wp2
              go_roundg (s.size - (i + 1))
              case measure => omega
              case rel => exact ⟨i + 1, rfl, by omega, Nat.le_refl _, HI, rfl⟩
            · have d90 : decide ((s[i].toNat : Int) ≤ 90) = true := decide_eq_true (by omega)
              go_wp2
              go_roundg (s.size - (i + 1))
              case measure => omega
              case rel => exact ⟨i + 1, rfl, by omega, Nat.le_refl _, HI, rfl⟩
            · have e95 : ((s[i].toNat : Int) == 95) = true := by simp [h1]
              have h2 : 95 ≤ s[i].toNat ∧ s[i].toNat ≤ 95 := by omega
              obtain ⟨h2, h3⟩ := h2
              have d57 : decide ((s[i].toNat : Int) ≤ 57) = false := decide_eq_false (by omega)
              have d90 : decide ((s[i].toNat : Int) ≤ 90) = false := decide_eq_false (by omega)
              clear h1
              go_wp2
              go_roundg (s.size - (i + 1))
              case measure => omega
              case rel => exact ⟨i + 1, rfl, by omega, Nat.le_refl _, HI, rfl⟩
          · have HP : Hid (plainB s.data.toList = false) := by show _ = _; rw [plainB, all_bad hlt hin]; simp
            have e95 : ((s[i].toNat : Int) == 95) = false := by simp; omega
            have hways : s[i].toNat < 48 ∨ (58 ≤ s[i].toNat ∧ s[i].toNat ≤ 64) ∨ (91 ≤ s[i].toNat ∧ s[i].toNat ≤ 96) ∨ 123 ≤ s[i].toNat := by omega
            clear hl hin
            rcases hways with h1 | ⟨h1, h2⟩ | ⟨h1, h2⟩ | h1
            · go_wp2
              go_ret
              exact ⟨by rw [HP.out]; rfl, rfl⟩
            · have d57 : decide ((s[i].toNat : Int) ≤ 57) = false := decide_eq_false (by omega)
              go_wp2
              go_ret
              exact ⟨by rw [HP.out]; rfl, rfl⟩
            · have d57 : decide ((s[i].toNat : Int) ≤ 57) = false := decide_eq_false (by omega)
              have d90 : decide ((s[i].toNat : Int) ≤ 90) = false := decide_eq_false (by omega)
              go_wp2
              go_ret
              exact ⟨by rw [HP.out]; rfl, rfl⟩
            · have d57 : decide ((s[i].toNat : Int) ≤ 57) = false := decide_eq_false (by omega)
              have d90 : decide ((s[i].toNat : Int) ≤ 90) = false := decide_eq_false (by omega)
              have d122 : decide ((s[i].toNat : Int) ≤ 122) = false := decide_eq_false (by omega)
              go_wp2
              go_ret
              exact ⟨by rw [HP.out]; rfl, rfl⟩
    · have hie : i = s.size := by omega
      subst hie
      have HA := H.out.1
      rw [take_all] at HA
      by_cases h0 : s.size = 0
      · have hn : s.toList = [] := by rw [toList_data]; exact List.eq_nil_of_length_eq_zero (by rw [Array.length_toList]; exact h0)
        have hp : Hid (plainB s.data.toList = false) := by show _ = _; rw [← toList_data, hn]; rfl
        have he : s.toList.isEmpty = true := by rw [hn]; rfl
        clear h0 HA
        go_wp2
        go_ret
        exact ⟨by rw [hp.out]; rfl, rfl⟩
      · have hn : ¬ s.toList = [] := by
          rw [toList_data]
          intro h
          have : s.data.toList.length = 0 := by rw [h]; rfl
          rw [Array.length_toList] at this
          exact h0 this
        have he : s.toList.isEmpty = false := by simpa using hn
        have HP := H.out.2 (by omega)
        have HV : Hid (plainB s.data.toList = !(s.toList == [110, 111, 116])) := by show _ = _; rw [plainB, HP, HA, toList_data]; rfl
        clear h0 HA HP
        go_wp2
        go_ret
        exact ⟨by rw [HV.out]; first | rfl | simp, rfl⟩
end Go.Proofs.YtbcmkkphbkpapaaDoor
