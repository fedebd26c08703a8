import Derived.Test.YtbcmkkphbkpapaaDoorPFWx1
import Derived.Lib.ItoaLen
set_option linter.unusedVariables false
set_option linter.unusedSimpArgs false
namespace Go.Proofs.YtbcmkkphbkpapaaDoor.WordP
open Go Go.RowKit Go.Proofs.YtbcmkkphbkpapaaDoor.PFW Go.Lib

/-! The law's own digits are the numeral. -/
abbrev bL (l : List UInt8) : ByteArray := ⟨l.toArray⟩
theorem bL_append (l m : List UInt8) : bL l ++ bL m = bL (l ++ m) := by
  apply ByteArray.ext
  simp [bL]
theorem one_digit (r : Nat) (h : r < 10) : strOfNums [(48 + ((r : Int) % 256)) % 256] = bL [UInt8.ofNat (48 + r)] := by
  have e : (48 + ((r : Int) % 256)) % 256 = ((48 + r : Nat) : Int) := by omega
  rw [e]
  unfold strOfNums bL
  rw [List.map_cons, List.map_nil, Int.toNat_natCast]
theorem tmod_cast (m : Nat) : Int.tmod (m : Int) 10 = ((m % 10 : Nat) : Int) := by
  rw [Int.tmod_eq_emod_of_nonneg (by omega)]; omega
theorem tmod_neg (m : Nat) : Int.tmod (-(m : Int)) 10 = -((m % 10 : Nat) : Int) := by
  rw [Int.neg_tmod, tmod_cast]
theorem tdiv_cast (m : Nat) : Int.tdiv (m : Int) 10 = ((m / 10 : Nat) : Int) := by
  rw [Int.tdiv_eq_ediv_of_nonneg (by omega)]; omega
theorem tdiv_neg (m : Nat) : Int.tdiv (-(m : Int)) 10 = -((m / 10 : Nat) : Int) := by
  rw [Int.neg_tdiv, tdiv_cast]
def fin (x0 : Int) (l : List UInt8) : ByteArray := if x0 < 0 then bL (45 :: l) else bL l
theorem l0_zero (k : Nat) (x0 : Int) (l : List UInt8) (hl : l.length ≤ 1000) : ergolaw01_digits.l0 (k + 1) x0 (bL l) 0 = some (fin x0 l) := by
  have hs : (bL l).size = l.length := by simp [bL, ByteArray.size]
  simp only [ergolaw01_digits.l0]
  rw [if_pos trivial]
  unfold fin
  by_cases h : x0 < 0
  · rw [if_pos h, if_pos (by omega), if_pos h]
    exact congrArg some (bL_append [45] l)
  · rw [if_neg h, if_neg h]
theorem l0_step (k : Nat) (x0 : Int) (l : List UInt8) (m : Nat) (s : Bool) (hm : 0 < m) (hm2 : m ≤ 9223372036854775808) (hl : l.length ≤ 1000) (hneg : s = false → m ≤ 9223372036854775807) :
    ergolaw01_digits.l0 (k + 1) x0 (bL l) (if s then -(m : Int) else (m : Int)) = ergolaw01_digits.l0 k x0 (bL (UInt8.ofNat (48 + m % 10) :: l)) (if s then -((m / 10 : Nat) : Int) else ((m / 10 : Nat) : Int)) := by
  have hs : (bL l).size = l.length := by simp [bL, ByteArray.size]
  have hs1 : ∀ c : UInt8, (bL [c]).size = 1 := fun c => by simp [bL, ByteArray.size]
  have key : ∀ r : Nat, r < 10 → bL [UInt8.ofNat (48 + r)] ++ bL l = bL (UInt8.ofNat (48 + r) :: l) := fun r _ => bL_append _ _
  cases s with
  | false =>
    simp only [ergolaw01_digits.l0, Bool.false_eq_true, if_false]
    rw [if_neg (by omega), if_neg (by rw [tmod_cast]; omega), tmod_cast, tdiv_cast, Option.bind_some, one_digit _ (by omega), if_pos (by rw [hs, hs1]; omega), key _ (by omega)]
    congr 1
    unfold wrap64
    omega
  | true =>
    simp only [ergolaw01_digits.l0, if_true]
    rw [if_neg (by omega)]
    by_cases h : m % 10 = 0
    · rw [if_neg (by rw [tmod_neg, h]; decide), tmod_neg, tdiv_neg, Option.bind_some, show -((m % 10 : Nat) : Int) = ((m % 10 : Nat) : Int) by omega, one_digit _ (by omega), if_pos (by rw [hs, hs1]; omega), key _ (by omega)]
      congr 1
      unfold wrap64
      omega
    · rw [if_pos (by rw [tmod_neg]; omega), tmod_neg, tdiv_neg, Option.bind_some, show wrap64 (- -((m % 10 : Nat) : Int)) = ((m % 10 : Nat) : Int) by unfold wrap64; omega, one_digit _ (by omega), if_pos (by rw [hs, hs1]; omega), key _ (by omega)]
      congr 1
      unfold wrap64
      omega
theorem l0_all (x0 : Int) (s : Bool) (m : Nat) : ∀ (k : Nat) (l : List UInt8), 0 < m → m ≤ 9223372036854775808 → (s = false → m ≤ 9223372036854775807) → l.length + nDigits m ≤ 1000 → nDigits m < k →
    ergolaw01_digits.l0 k x0 (bL l) (if s then -(m : Int) else (m : Int)) = some (fin x0 (decDigits m ++ l)) := by
  induction m using Nat.strongRecOn with
  | _ m ih =>
    intro k l hm hm2 hneg hl hk
    obtain ⟨k, rfl⟩ : ∃ q, k = q + 1 := ⟨k - 1, by omega⟩
    rw [l0_step k x0 l m s hm hm2 (by omega) hneg]
    by_cases h : m < 10
    · have h0 : m / 10 = 0 := by omega
      rw [nDigits_small h] at hk hl
      obtain ⟨k, rfl⟩ : ∃ q, k = q + 1 := ⟨k - 1, by omega⟩
      rw [h0, show (if s then -((0 : Nat) : Int) else ((0 : Nat) : Int)) = 0 by cases s <;> rfl, l0_zero _ _ _ (by simp; omega), decDigits_one h, Nat.mod_eq_of_lt h]
      rfl
    · rw [nDigits_big h] at hk hl
      rw [ih (m / 10) (by omega) k _ (by omega) (by omega) (by intro e; have := hneg e; omega) (by simp; omega) (by omega)]
      have hd : decDigits m = decDigits (m / 10) ++ [UInt8.ofNat (48 + m % 10)] := by rw [decDigits, dif_neg h]
      rw [hd]
      simp
theorem digits_is (n : Int) (h0 : -9223372036854775808 ≤ n) (h1 : n ≤ 9223372036854775807) : ergolaw01_digits.f 30 n = some (bL (itoa n)) := by
  unfold ergolaw01_digits.f
  by_cases hz : n = 0
  · subst hz
    rw [if_pos rfl]
    have : itoa 0 = [48] := by
      have := itoa_nonneg 0
      rw [decDigits_one (by decide)] at this
      exact this
    rw [this]
  · rw [if_neg hz]
    by_cases hneg : n < 0
    · obtain ⟨m, rfl⟩ : ∃ m : Nat, n = -(m : Int) := ⟨n.natAbs, by omega⟩
      have hd := nDigits_le20 m (by omega)
      have := l0_all (-(m : Int)) true m 30 [] (by omega) (by omega) (by intro h; cases h) (by simp; omega) (by omega)
      simp only [if_true, List.append_nil] at this
      refine Eq.trans this ?_
      rw [fin, if_pos hneg, itoa_neg m (by omega)]
    · obtain ⟨m, rfl⟩ : ∃ m : Nat, n = (m : Int) := ⟨n.toNat, by omega⟩
      have hd := nDigits_le20 m (by omega)
      have := l0_all (m : Int) false m 30 [] (by omega) (by omega) (by intro _; omega) (by simp; omega) (by omega)
      simp only [Bool.false_eq_true, if_false, List.append_nil] at this
      refine Eq.trans this ?_
      rw [fin, if_neg hneg, itoa_nonneg]
theorem word_out (n : Int) (h0 : -9223372036854775808 ≤ n) (h1 : n ≤ 9223372036854775807) (h : n < 0 ∨ 13 < n) : ergolaw01_word.f 30 n = some (bL ([116, 97, 103, 32] ++ itoa n)) := by
  have hs : (bL (itoa n)).size ≤ 21 := by
    have := itoa_length_le n h0 h1
    have e : (bL (itoa n)).size = (itoa n).length := by simp [bL, ByteArray.size]
    omega
  unfold ergolaw01_word.f
  rw [Option.bind_some]
  by_cases hn : n < 0
  · rw [if_pos hn, digits_is n h0 h1, Option.bind_some, if_pos (by omega)]
    exact congrArg some (bL_append _ _)
  · rw [if_neg hn, if_pos (by omega), digits_is n h0 h1, Option.bind_some, if_pos (by omega)]
    exact congrArg some (bL_append _ _)
end Go.Proofs.YtbcmkkphbkpapaaDoor.WordP
