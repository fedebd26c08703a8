import Derived.Test.YtbcmkkphbkpapaaDoorZ1PSPx0
import Derived.Test.YtbcmkkphbkpapaaDoorZ1PSPx1
import Derived.Test.YtbcmkkphbkpapaaDoorZ1PSPx4
namespace Go.Proofs.YtbcmkkphbkpapaaDoorPSP
open Go.RowKit Go.Proofs.YtbcmkkphbkpapaaDoorW.PrintWords Go.Proofs.YtbcmkkphbkpapaaDoorW.PrintLast Go.Proofs.YtbcmkkphbkpapaaDoorW.PrintMore
attribute [local go_sem] max2_int min2_int max_two min_two max_three min_three max_four min_four   -- for this text's walks alone
set_option linter.unusedVariables false
set_option linter.unusedSimpArgs false
def syntax_Expr_in.f : Nat → Int → ByteArray → Int → Int → List (S69) → Int → Option (ByteArray)
  | 0, _, _, _, _, _, _ => none
  | k + 1, a0_0, a0_1, a0_2, a0_3, l0_4, a1 => if (l0_4.length : Int) = 2 then ((syntax_level.f a0_3).bind fun t203 => (if 0 < (l0_4.length : Int) then ((syntax_Expr_in.f k ((rd_T69 l0_4 0).f0.f0) ((rd_T69 l0_4 0).f0.f1) ((rd_T69 l0_4 0).f0.f2) ((rd_T69 l0_4 0).f1) ((rd_T69 l0_4 0).f2) t203).bind fun t205 => (if t205.size + 1 ≤ 9223372036854775807 then ((arith_Op_Sign.f a0_3).bind fun t206 => (if (t205 ++ (⟨#[32]⟩ : ByteArray)).size + t206.size ≤ 9223372036854775807 then (if ((t205 ++ (⟨#[32]⟩ : ByteArray)) ++ t206).size + 1 ≤ 9223372036854775807 then (if 1 < (l0_4.length : Int) then ((syntax_Expr_in.f k ((rd_T69 l0_4 1).f0.f0) ((rd_T69 l0_4 1).f0.f1) ((rd_T69 l0_4 1).f0.f2) ((rd_T69 l0_4 1).f1) ((rd_T69 l0_4 1).f2) (wrap64 (t203 + 1))).bind fun t208 => (if (((t205 ++ (⟨#[32]⟩ : ByteArray)) ++ t206) ++ (⟨#[32]⟩ : ByteArray)).size + t208.size ≤ 9223372036854775807 then (if t203 < a1 then (if 1 + ((((t205 ++ (⟨#[32]⟩ : ByteArray)) ++ t206) ++ (⟨#[32]⟩ : ByteArray)) ++ t208).size ≤ 9223372036854775807 then (if ((⟨#[40]⟩ : ByteArray) ++ ((((t205 ++ (⟨#[32]⟩ : ByteArray)) ++ t206) ++ (⟨#[32]⟩ : ByteArray)) ++ t208)).size + 1 ≤ 9223372036854775807 then (some (((⟨#[40]⟩ : ByteArray) ++ ((((t205 ++ (⟨#[32]⟩ : ByteArray)) ++ t206) ++ (⟨#[32]⟩ : ByteArray)) ++ t208)) ++ (⟨#[41]⟩ : ByteArray))) else (none)) else (none)) else (some ((((t205 ++ (⟨#[32]⟩ : ByteArray)) ++ t206) ++ (⟨#[32]⟩ : ByteArray)) ++ t208))) else (none))) else (none)) else (none)) else (none))) else (none))) else (none))) else ((syntax_Term_String.f k a0_0 a0_1 a0_2).bind fun t202 => (some t202))
def syntax_Expr_in.T4 : Bool × List (List Nat × List Nat) := (true, [([], []), ([0], [0]), ([1], [1]), ([2], [2]), ([], []), ([3, 4], [3, 4]), ([5], [5]), ([], []), ([7], [7]), ([8, 5], [8]), ([6, 9], [6, 9]), ([10], [10]), ([], []), ([12], [12]), ([13], [13]), ([14], [14]), ([], []), ([16], [16]), ([15, 17, 9], [15, 17]), ([11, 18], [11, 18]), ([19, 18, 0, 1, 2, 3, 4, 5, 6, 7, 8, 9, 10, 11, 12, 13, 14, 15, 16, 17, 18, 19], [19])])
def syntax_Expr_in.B4 : List Nat := [0, 1, 3, 7, 0, 31, 63, 0, 128, 447, 1023, 2047, 0, 4096, 12288, 28672, 0, 65536, 259007, 524287, 1048575]
theorem syntax_Expr_in.tab4 : rtab .any (opsOf Tryd.f56 4) = syntax_Expr_in.T4 := by kernel_rfl
theorem syntax_Expr_in.bits4 : waitsOk syntax_Expr_in.T4.2 syntax_Expr_in.B4 = true := by kernel_rfl
set_option maxHeartbeats 8000000 in
set_option maxRecDepth 100000 in
theorem syntax_Expr_in.calls (k : Nat) : ∀ (a0_0 : Int) (a0_1 : ByteArray) (a0_2 : Int) (a0_3 : Int) (A0_4 : Option Addr) (c0_4 : Nat) (l0_4 : List (S69)) (a1 : Int) (r : ByteArray) (w : World) (hr0_4 : Kd.C k69 w A0_4 l0_4.length l0_4) (hc0_4 : l0_4.length ≤ c0_4) (h : syntax_Expr_in.f k a0_0 a0_1 a0_2 a0_3 l0_4 a1 = some r) (hG : Go.Proofs.YtbcmkkphbkpapaaDoor.TabT w),
    Calls Tryd.prog 56 #[.agg #[.int .i64 a0_0, .string a0_1, .int .i64 a0_2, .int .i64 a0_3, .slice A0_4 l0_4.length c0_4], .int .i64 a1] w fun e w' => e = .returned (.string r) ∧ Below w.heap.size w w' := by
  induction k using Nat.strongRecOn with
  | _ k ih =>
  intro a0_0 a0_1 a0_2 a0_3 A0_4 c0_4 l0_4 a1 r w hr0_4 hc0_4 h hG
  cases k with
  | zero => exact absurd h (by simp [syntax_Expr_in.f])
  | succ k =>
  simp only [syntax_Expr_in.f] at h
  have hu69 := Tryd.underlying69
  have hu55 := Tryd.underlying55
  have HR0_4 := Aside0.mk hr0_4
  have HC0_4 := Aside0.mk hc0_4
  clear hr0_4 hc0_4
  have HB := Aside0.mk (Below.refl w.heap.size w)
  have H : (if (l0_4.length : Int) = 2 then ((syntax_level.f a0_3).bind fun t203 => (if 0 < (l0_4.length : Int) then ((syntax_Expr_in.f k ((rd_T69 l0_4 0).f0.f0) ((rd_T69 l0_4 0).f0.f1) ((rd_T69 l0_4 0).f0.f2) ((rd_T69 l0_4 0).f1) ((rd_T69 l0_4 0).f2) t203).bind fun t205 => (if t205.size + 1 ≤ 9223372036854775807 then ((arith_Op_Sign.f a0_3).bind fun t206 => (if (t205 ++ (⟨#[32]⟩ : ByteArray)).size + t206.size ≤ 9223372036854775807 then (if ((t205 ++ (⟨#[32]⟩ : ByteArray)) ++ t206).size + 1 ≤ 9223372036854775807 then (if 1 < (l0_4.length : Int) then ((syntax_Expr_in.f k ((rd_T69 l0_4 1).f0.f0) ((rd_T69 l0_4 1).f0.f1) ((rd_T69 l0_4 1).f0.f2) ((rd_T69 l0_4 1).f1) ((rd_T69 l0_4 1).f2) (wrap64 (t203 + 1))).bind fun t208 => (if (((t205 ++ (⟨#[32]⟩ : ByteArray)) ++ t206) ++ (⟨#[32]⟩ : ByteArray)).size + t208.size ≤ 9223372036854775807 then (if t203 < a1 then (if 1 + ((((t205 ++ (⟨#[32]⟩ : ByteArray)) ++ t206) ++ (⟨#[32]⟩ : ByteArray)) ++ t208).size ≤ 9223372036854775807 then (if ((⟨#[40]⟩ : ByteArray) ++ ((((t205 ++ (⟨#[32]⟩ : ByteArray)) ++ t206) ++ (⟨#[32]⟩ : ByteArray)) ++ t208)).size + 1 ≤ 9223372036854775807 then (some (((⟨#[40]⟩ : ByteArray) ++ ((((t205 ++ (⟨#[32]⟩ : ByteArray)) ++ t206) ++ (⟨#[32]⟩ : ByteArray)) ++ t208)) ++ (⟨#[41]⟩ : ByteArray))) else (none)) else (none)) else (some ((((t205 ++ (⟨#[32]⟩ : ByteArray)) ++ t206) ++ (⟨#[32]⟩ : ByteArray)) ++ t208))) else (none))) else (none)) else (none)) else (none))) else (none))) else (none))) else ((syntax_Term_String.f k a0_0 a0_1 a0_2).bind fun t202 => (some t202))) = some r := h
  clear h
  by_cases c3 : (l0_4.length : Int) = 2
  · rw [if_pos c3] at H
    have c3b0 : ((l0_4.length : Int) == 2) = true := beq_iff_eq.mpr c3
    have c3b1 : ((l0_4.length : Int) != 2) = false := bne_eq_false_iff_eq.mpr c3
    clear c3
    replace H := Option.bind_eq_some_iff.mp H
    obtain ⟨t203, A40, H⟩ := H
    replace H : (if 0 < (l0_4.length : Int) then ((syntax_Expr_in.f k ((rd_T69 l0_4 0).f0.f0) ((rd_T69 l0_4 0).f0.f1) ((rd_T69 l0_4 0).f0.f2) ((rd_T69 l0_4 0).f1) ((rd_T69 l0_4 0).f2) t203).bind fun t205 => (if t205.size + 1 ≤ 9223372036854775807 then ((arith_Op_Sign.f a0_3).bind fun t206 => (if (t205 ++ (⟨#[32]⟩ : ByteArray)).size + t206.size ≤ 9223372036854775807 then (if ((t205 ++ (⟨#[32]⟩ : ByteArray)) ++ t206).size + 1 ≤ 9223372036854775807 then (if 1 < (l0_4.length : Int) then ((syntax_Expr_in.f k ((rd_T69 l0_4 1).f0.f0) ((rd_T69 l0_4 1).f0.f1) ((rd_T69 l0_4 1).f0.f2) ((rd_T69 l0_4 1).f1) ((rd_T69 l0_4 1).f2) (wrap64 (t203 + 1))).bind fun t208 => (if (((t205 ++ (⟨#[32]⟩ : ByteArray)) ++ t206) ++ (⟨#[32]⟩ : ByteArray)).size + t208.size ≤ 9223372036854775807 then (if t203 < a1 then (if 1 + ((((t205 ++ (⟨#[32]⟩ : ByteArray)) ++ t206) ++ (⟨#[32]⟩ : ByteArray)) ++ t208).size ≤ 9223372036854775807 then (if ((⟨#[40]⟩ : ByteArray) ++ ((((t205 ++ (⟨#[32]⟩ : ByteArray)) ++ t206) ++ (⟨#[32]⟩ : ByteArray)) ++ t208)).size + 1 ≤ 9223372036854775807 then (some (((⟨#[40]⟩ : ByteArray) ++ ((((t205 ++ (⟨#[32]⟩ : ByteArray)) ++ t206) ++ (⟨#[32]⟩ : ByteArray)) ++ t208)) ++ (⟨#[41]⟩ : ByteArray))) else (none)) else (none)) else (some ((((t205 ++ (⟨#[32]⟩ : ByteArray)) ++ t206) ++ (⟨#[32]⟩ : ByteArray)) ++ t208))) else (none))) else (none)) else (none)) else (none))) else (none))) else (none)) = some r := H
    have A4 := Aside0.mk A40
    clear A40
    by_cases c5 : 0 < (l0_4.length : Int)
    · rw [if_pos c5] at H
      have c5b0 : decide (0 < (l0_4.length : Int)) = true := decide_eq_true c5
      have c5b1 : decide (0 < l0_4.length) = true := decide_eq_true (by omega)
      clear c5
      replace H := Option.bind_eq_some_iff.mp H
      obtain ⟨t205, A60, H⟩ := H
      replace H : (if t205.size + 1 ≤ 9223372036854775807 then ((arith_Op_Sign.f a0_3).bind fun t206 => (if (t205 ++ (⟨#[32]⟩ : ByteArray)).size + t206.size ≤ 9223372036854775807 then (if ((t205 ++ (⟨#[32]⟩ : ByteArray)) ++ t206).size + 1 ≤ 9223372036854775807 then (if 1 < (l0_4.length : Int) then ((syntax_Expr_in.f k ((rd_T69 l0_4 1).f0.f0) ((rd_T69 l0_4 1).f0.f1) ((rd_T69 l0_4 1).f0.f2) ((rd_T69 l0_4 1).f1) ((rd_T69 l0_4 1).f2) (wrap64 (t203 + 1))).bind fun t208 => (if (((t205 ++ (⟨#[32]⟩ : ByteArray)) ++ t206) ++ (⟨#[32]⟩ : ByteArray)).size + t208.size ≤ 9223372036854775807 then (if t203 < a1 then (if 1 + ((((t205 ++ (⟨#[32]⟩ : ByteArray)) ++ t206) ++ (⟨#[32]⟩ : ByteArray)) ++ t208).size ≤ 9223372036854775807 then (if ((⟨#[40]⟩ : ByteArray) ++ ((((t205 ++ (⟨#[32]⟩ : ByteArray)) ++ t206) ++ (⟨#[32]⟩ : ByteArray)) ++ t208)).size + 1 ≤ 9223372036854775807 then (some (((⟨#[40]⟩ : ByteArray) ++ ((((t205 ++ (⟨#[32]⟩ : ByteArray)) ++ t206) ++ (⟨#[32]⟩ : ByteArray)) ++ t208)) ++ (⟨#[41]⟩ : ByteArray))) else (none)) else (none)) else (some ((((t205 ++ (⟨#[32]⟩ : ByteArray)) ++ t206) ++ (⟨#[32]⟩ : ByteArray)) ++ t208))) else (none))) else (none)) else (none)) else (none))) else (none)) = some r := H
      have A6 := Aside0.mk A60
      clear A60
      by_cases c7 : t205.size + 1 ≤ 9223372036854775807
      · rw [if_pos c7] at H
        have c7b0 := eq_true c7
        have c7b1 : decide (t205.size + 1 ≤ 9223372036854775807) = true := decide_eq_true c7
        try have c7b2 : (9223372036854775807 < t205.size + 1) = False := eq_false (Nat.not_lt.2 c7)
        replace H := Option.bind_eq_some_iff.mp H
        obtain ⟨t206, A80, H⟩ := H
        replace H : (if (t205 ++ (⟨#[32]⟩ : ByteArray)).size + t206.size ≤ 9223372036854775807 then (if ((t205 ++ (⟨#[32]⟩ : ByteArray)) ++ t206).size + 1 ≤ 9223372036854775807 then (if 1 < (l0_4.length : Int) then ((syntax_Expr_in.f k ((rd_T69 l0_4 1).f0.f0) ((rd_T69 l0_4 1).f0.f1) ((rd_T69 l0_4 1).f0.f2) ((rd_T69 l0_4 1).f1) ((rd_T69 l0_4 1).f2) (wrap64 (t203 + 1))).bind fun t208 => (if (((t205 ++ (⟨#[32]⟩ : ByteArray)) ++ t206) ++ (⟨#[32]⟩ : ByteArray)).size + t208.size ≤ 9223372036854775807 then (if t203 < a1 then (if 1 + ((((t205 ++ (⟨#[32]⟩ : ByteArray)) ++ t206) ++ (⟨#[32]⟩ : ByteArray)) ++ t208).size ≤ 9223372036854775807 then (if ((⟨#[40]⟩ : ByteArray) ++ ((((t205 ++ (⟨#[32]⟩ : ByteArray)) ++ t206) ++ (⟨#[32]⟩ : ByteArray)) ++ t208)).size + 1 ≤ 9223372036854775807 then (some (((⟨#[40]⟩ : ByteArray) ++ ((((t205 ++ (⟨#[32]⟩ : ByteArray)) ++ t206) ++ (⟨#[32]⟩ : ByteArray)) ++ t208)) ++ (⟨#[41]⟩ : ByteArray))) else (none)) else (none)) else (some ((((t205 ++ (⟨#[32]⟩ : ByteArray)) ++ t206) ++ (⟨#[32]⟩ : ByteArray)) ++ t208))) else (none))) else (none)) else (none)) else (none)) = some r := H
        have A8 := Aside0.mk A80
        clear A80
        by_cases c9 : (t205 ++ (⟨#[32]⟩ : ByteArray)).size + t206.size ≤ 9223372036854775807
        · rw [if_pos c9] at H
          have c9b0 := eq_true c9
          have c9b1 : decide ((t205 ++ (⟨#[32]⟩ : ByteArray)).size + t206.size ≤ 9223372036854775807) = true := decide_eq_true c9
          try have c9b2 : (9223372036854775807 < (t205 ++ (⟨#[32]⟩ : ByteArray)).size + t206.size) = False := eq_false (Nat.not_lt.2 c9)
          try have c9b4 : (9223372036854775807 < t205.size + 1 + t206.size) = False := eq_false (Nat.not_lt.2 (by have h9 := c9; simp only [ByteArray.size_append] at h9; exact h9))
          by_cases c10 : ((t205 ++ (⟨#[32]⟩ : ByteArray)) ++ t206).size + 1 ≤ 9223372036854775807
          · rw [if_pos c10] at H
            have c10b0 := eq_true c10
            have c10b1 : decide (((t205 ++ (⟨#[32]⟩ : ByteArray)) ++ t206).size + 1 ≤ 9223372036854775807) = true := decide_eq_true c10
            try have c10b2 : (9223372036854775807 < ((t205 ++ (⟨#[32]⟩ : ByteArray)) ++ t206).size + 1) = False := eq_false (Nat.not_lt.2 c10)
            try have c10b4 : (9223372036854775807 < t205.size + 1 + t206.size + 1) = False := eq_false (Nat.not_lt.2 (by have h9 := c10; simp only [ByteArray.size_append] at h9; exact h9))
            by_cases c11 : 1 < (l0_4.length : Int)
            · rw [if_pos c11] at H
              have c11b0 : decide (1 < (l0_4.length : Int)) = true := decide_eq_true c11
              have c11b1 : decide (1 < l0_4.length) = true := decide_eq_true (by omega)
              clear c11
              replace H := Option.bind_eq_some_iff.mp H
              obtain ⟨t208, A120, H⟩ := H
              replace H : (if (((t205 ++ (⟨#[32]⟩ : ByteArray)) ++ t206) ++ (⟨#[32]⟩ : ByteArray)).size + t208.size ≤ 9223372036854775807 then (if t203 < a1 then (if 1 + ((((t205 ++ (⟨#[32]⟩ : ByteArray)) ++ t206) ++ (⟨#[32]⟩ : ByteArray)) ++ t208).size ≤ 9223372036854775807 then (if ((⟨#[40]⟩ : ByteArray) ++ ((((t205 ++ (⟨#[32]⟩ : ByteArray)) ++ t206) ++ (⟨#[32]⟩ : ByteArray)) ++ t208)).size + 1 ≤ 9223372036854775807 then (some (((⟨#[40]⟩ : ByteArray) ++ ((((t205 ++ (⟨#[32]⟩ : ByteArray)) ++ t206) ++ (⟨#[32]⟩ : ByteArray)) ++ t208)) ++ (⟨#[41]⟩ : ByteArray))) else (none)) else (none)) else (some ((((t205 ++ (⟨#[32]⟩ : ByteArray)) ++ t206) ++ (⟨#[32]⟩ : ByteArray)) ++ t208))) else (none)) = some r := H
              have A12 := Aside0.mk A120
              clear A120
              by_cases c13 : (((t205 ++ (⟨#[32]⟩ : ByteArray)) ++ t206) ++ (⟨#[32]⟩ : ByteArray)).size + t208.size ≤ 9223372036854775807
              · rw [if_pos c13] at H
                have c13b0 := eq_true c13
                have c13b1 : decide ((((t205 ++ (⟨#[32]⟩ : ByteArray)) ++ t206) ++ (⟨#[32]⟩ : ByteArray)).size + t208.size ≤ 9223372036854775807) = true := decide_eq_true c13
                try have c13b2 : (9223372036854775807 < (((t205 ++ (⟨#[32]⟩ : ByteArray)) ++ t206) ++ (⟨#[32]⟩ : ByteArray)).size + t208.size) = False := eq_false (Nat.not_lt.2 c13)
                try have c13b4 : (9223372036854775807 < t205.size + 1 + t206.size + 1 + t208.size) = False := eq_false (Nat.not_lt.2 (by have h9 := c13; simp only [ByteArray.size_append] at h9; exact h9))
                by_cases c14 : t203 < a1
                · rw [if_pos c14] at H
                  have c14b0 : decide (t203 < a1) = true := decide_eq_true c14
                  clear c14
                  by_cases c15 : 1 + ((((t205 ++ (⟨#[32]⟩ : ByteArray)) ++ t206) ++ (⟨#[32]⟩ : ByteArray)) ++ t208).size ≤ 9223372036854775807
                  · rw [if_pos c15] at H
                    have c15b0 := eq_true c15
                    have c15b1 : decide (1 + ((((t205 ++ (⟨#[32]⟩ : ByteArray)) ++ t206) ++ (⟨#[32]⟩ : ByteArray)) ++ t208).size ≤ 9223372036854775807) = true := decide_eq_true c15
                    try have c15b2 : (9223372036854775807 < 1 + ((((t205 ++ (⟨#[32]⟩ : ByteArray)) ++ t206) ++ (⟨#[32]⟩ : ByteArray)) ++ t208).size) = False := eq_false (Nat.not_lt.2 c15)
                    try have c15b4 : (9223372036854775807 < 1 + (t205.size + 1 + t206.size + 1 + t208.size)) = False := eq_false (Nat.not_lt.2 (by have h9 := c15; simp only [ByteArray.size_append] at h9; exact h9))
                    by_cases c16 : ((⟨#[40]⟩ : ByteArray) ++ ((((t205 ++ (⟨#[32]⟩ : ByteArray)) ++ t206) ++ (⟨#[32]⟩ : ByteArray)) ++ t208)).size + 1 ≤ 9223372036854775807
                    · rw [if_pos c16] at H
                      have c16b0 := eq_true c16
                      have c16b1 : decide (((⟨#[40]⟩ : ByteArray) ++ ((((t205 ++ (⟨#[32]⟩ : ByteArray)) ++ t206) ++ (⟨#[32]⟩ : ByteArray)) ++ t208)).size + 1 ≤ 9223372036854775807) = true := decide_eq_true c16
                      try have c16b2 : (9223372036854775807 < ((⟨#[40]⟩ : ByteArray) ++ ((((t205 ++ (⟨#[32]⟩ : ByteArray)) ++ t206) ++ (⟨#[32]⟩ : ByteArray)) ++ t208)).size + 1) = False := eq_false (Nat.not_lt.2 c16)
                      try have c16b4 : (9223372036854775807 < 1 + (t205.size + 1 + t206.size + 1 + t208.size) + 1) = False := eq_false (Nat.not_lt.2 (by have h9 := c16; simp only [ByteArray.size_append] at h9; exact h9))
                      obtain rfl := Option.some.inj H
                      go_enter Tryd.func56, Tryd.ntmps56
                      try go_wp2_with (first | ((with_reducible refine gate_dst (N := 2) rfl ?_); refine box_event ?hg (N := 2) ?hd (cs := #[.int .i64 a0_0, .string a0_1, .int .i64 a0_2, .int .i64 a0_3, .slice A0_4 l0_4.length c0_4]) (t := 69) ?hr ?_; (case hd => rfl); (case hg => rfl); (case hr => first | (go_simp; done) | (go_simp; rfl)); intro gb201 hg w17 hbox hb; have n0_ := Aside0.mk (below_step (by repeat (first | (with_reducible first | exact HB.out | apply below_alloc | apply pw_below_drewN | apply below_drew1) | exact HB.out)) hb); have n1_ := Aside0.mk (hbox); have n2_ := Aside0.mk ((by rw [hg]; exact (below_size (by repeat (first | (with_reducible first | exact HB.out | apply below_alloc | apply pw_below_drewN | apply below_drew1) | exact HB.out))) : w.heap.size ≤ gb201)); have n3_ := Aside0.mk ((by rw [hg]; exact (below_size (by repeat (first | (with_reducible first | exact HB.out | apply below_alloc | apply pw_below_drewN | apply below_drew1) | exact HB.out))) : w.heap.size ≤ gb201)); clear HB; have HB := n0_; have BK201 := n1_; have GW201 := n2_; have GE201 := n3_; clear n0_ n1_ n2_ n3_; clear hb hbox hg; have hcz18_0 : w17.cell? ⟨gb201, 0, none⟩ = some (.int .i64 a0_0) := (blk_cell BK201.out 0).trans rfl; have hcz18_1 : w17.cell? ⟨gb201, 1, none⟩ = some (.string a0_1) := (blk_cell BK201.out 1).trans rfl; have hcz18_2 : w17.cell? ⟨gb201, 2, none⟩ = some (.int .i64 a0_2) := (blk_cell BK201.out 2).trans rfl; have hcz18_3 : w17.cell? ⟨gb201, 3, none⟩ = some (.int .i64 a0_3) := (blk_cell BK201.out 3).trans rfl; have hcz18_4 : w17.cell? ⟨gb201, 4, none⟩ = some (.slice A0_4 l0_4.length c0_4) := (blk_cell BK201.out 4).trans rfl; have hfz18_0 := blk_frozen BK201.out 0; have hfz18_1 := blk_frozen BK201.out 1; have hfz18_2 := blk_frozen BK201.out 2; have hfz18_3 := blk_frozen BK201.out 3; have hfz18_4 := blk_frozen BK201.out 4) | ((with_reducible refine gate_callee (f := 78) rfl ?_); refine goesL_ (some 16) rfl rfl Tryd.func78 (by kernel_rfl) rfl #[.int .i64 a0_3] rfl (by (try simp only [List.map_toArray, List.map_cons, List.map_nil]); first | done | rfl | (simp only [List.length_drop, List.length_take]; rfl)) ?_; (with_reducible refine (syntax_level.calls a0_3 t203 _ A4.out).mono ?_); rintro e w' ⟨rfl, ⟨nd, rfl⟩⟩; refine ⟨_, rfl, ?_⟩))
                      (try (rw [drewN_self w17]; generalize hq_ : World.drewN w17 _ = w17; have n0_ : Aside0 (w17.heap[gb201]? = some (.cells #[.int .i64 a0_0, .string a0_1, .int .i64 a0_2, .int .i64 a0_3, .slice A0_4 l0_4.length c0_4] 69 (0, 0))) := ⟨by rw [← hq_]; exact (by (with_reducible repeat (first | refine blk_drewN ?_ _ | refine blk_drew ?_ | refine blk_alloc ?_ _)); exact BK201.out)⟩; have n1_ : Aside0 (Below w.heap.size w w17) := ⟨by rw [← hq_]; exact (by repeat (first | (with_reducible first | exact HB.out | apply below_alloc | apply pw_below_drewN | apply below_drew1 | refine below_set ?_ GE201.out) | exact HB.out))⟩; clear BK201 HB hq_; have BK201 := n0_; have HB := n1_; clear n0_ n1_))
                      have n0_ := Aside0.mk (blk_drew BK201.out)
                      have n1_ := Aside0.mk (below_drew1 HB.out)
                      clear BK201
                      clear HB
                      have BK201 := n0_
                      have HB := n1_
                      clear n0_ n1_
                      have p204 : 0 ≤ (0 : Int) := (by omega)
                      have q204 : 0 < (l0_4.length : Int) := of_decide_eq_true (by first | (with_reducible assumption) | assumption)
                      obtain ⟨ad204, A204_4, c204_4, e204, hx204_0, hx204_1, hx204_2, hx204_3, hx204_4, hl204_4, hi204_4⟩ := at_T69 HR0_4.out 0 p204 q204
                      have hw204_4 := hx204_4
                      (try rw [show ((0 : Int)).toNat = 0 from rfl] at hw204_4)
                      (try rw [show 0 * 5 = 0 from rfl] at hw204_4)
                      (try rw [Addr.add_zero'] at hw204_4)
                      have hw204_3 := hx204_3
                      (try rw [show ((0 : Int)).toNat = 0 from rfl] at hw204_3)
                      (try rw [show 0 * 5 = 0 from rfl] at hw204_3)
                      (try rw [Addr.add_zero'] at hw204_3)
                      have hw204_2 := hx204_2
                      (try rw [show ((0 : Int)).toNat = 0 from rfl] at hw204_2)
                      (try rw [show 0 * 5 = 0 from rfl] at hw204_2)
                      (try rw [Addr.add_zero'] at hw204_2)
                      have hw204_1 := hx204_1
                      (try rw [show ((0 : Int)).toNat = 0 from rfl] at hw204_1)
                      (try rw [show 0 * 5 = 0 from rfl] at hw204_1)
                      (try rw [Addr.add_zero'] at hw204_1)
                      have hw204_0 := hx204_0
                      (try rw [show ((0 : Int)).toNat = 0 from rfl] at hw204_0)
                      (try rw [show 0 * 5 = 0 from rfl] at hw204_0)
                      (try rw [Addr.add_zero'] at hw204_0)
                      cases e204
                      have qi204 : (0 < l0_4.length) = True := eq_true (by omega)
                      (try rw [show ((0 : Int)).toNat = 0 from rfl] at hx204_0)
                      (try rw [show 0 * 5 = 0 from rfl] at hx204_0)
                      (try rw [Addr.add_zero'] at hx204_0)
                      (try rw [show ((0 : Int)).toNat = 0 from rfl] at hx204_1)
                      (try rw [show 0 * 5 = 0 from rfl] at hx204_1)
                      (try rw [Addr.add_zero'] at hx204_1)
                      (try rw [show ((0 : Int)).toNat = 0 from rfl] at hx204_2)
                      (try rw [show 0 * 5 = 0 from rfl] at hx204_2)
                      (try rw [Addr.add_zero'] at hx204_2)
                      (try rw [show ((0 : Int)).toNat = 0 from rfl] at hx204_3)
                      (try rw [show 0 * 5 = 0 from rfl] at hx204_3)
                      (try rw [Addr.add_zero'] at hx204_3)
                      (try rw [show ((0 : Int)).toNat = 0 from rfl] at hx204_4)
                      (try rw [show 0 * 5 = 0 from rfl] at hx204_4)
                      (try rw [Addr.add_zero'] at hx204_4)
                      replace hx204_0 := (HB.out.cell (World.block_lt_of_cell? w _ hx204_0)).trans hx204_0
                      replace hx204_1 := (HB.out.cell (World.block_lt_of_cell? w _ hx204_1)).trans hx204_1
                      replace hx204_2 := (HB.out.cell (World.block_lt_of_cell? w _ hx204_2)).trans hx204_2
                      replace hx204_3 := (HB.out.cell (World.block_lt_of_cell? w _ hx204_3)).trans hx204_3
                      replace hx204_4 := (HB.out.cell (World.block_lt_of_cell? w _ hx204_4)).trans hx204_4
                      have HR204_4 := Aside0.mk hi204_4
                      have HC204_4 := Aside0.mk hl204_4
                      clear hi204_4 hl204_4
                      replace p204 := eq_true p204
                      replace q204 := eq_true q204
                      have p207 : 0 ≤ (1 : Int) := (by omega)
                      have q207 : 1 < (l0_4.length : Int) := of_decide_eq_true (by first | (with_reducible assumption) | assumption)
                      obtain ⟨ad207, A207_4, c207_4, e207, hx207_0, hx207_1, hx207_2, hx207_3, hx207_4, hl207_4, hi207_4⟩ := at_T69 HR0_4.out 1 p207 q207
                      have hw207_4 := hx207_4
                      (try rw [show ((1 : Int)).toNat = 1 from rfl] at hw207_4)
                      (try rw [show 1 * 5 = 5 from rfl] at hw207_4)
                      (try simp only [Nat.reduceMul, Nat.reduceEqDiff, Go.Addr.add, ↓reduceIte] at hw207_4)
                      have hw207_3 := hx207_3
                      (try rw [show ((1 : Int)).toNat = 1 from rfl] at hw207_3)
                      (try rw [show 1 * 5 = 5 from rfl] at hw207_3)
                      (try simp only [Nat.reduceMul, Nat.reduceEqDiff, Go.Addr.add, ↓reduceIte] at hw207_3)
                      have hw207_2 := hx207_2
                      (try rw [show ((1 : Int)).toNat = 1 from rfl] at hw207_2)
                      (try rw [show 1 * 5 = 5 from rfl] at hw207_2)
                      (try simp only [Nat.reduceMul, Nat.reduceEqDiff, Go.Addr.add, ↓reduceIte] at hw207_2)
                      have hw207_1 := hx207_1
                      (try rw [show ((1 : Int)).toNat = 1 from rfl] at hw207_1)
                      (try rw [show 1 * 5 = 5 from rfl] at hw207_1)
                      (try simp only [Nat.reduceMul, Nat.reduceEqDiff, Go.Addr.add, ↓reduceIte] at hw207_1)
                      have hw207_0 := hx207_0
                      (try rw [show ((1 : Int)).toNat = 1 from rfl] at hw207_0)
                      (try rw [show 1 * 5 = 5 from rfl] at hw207_0)
                      (try simp only [Nat.reduceMul, Nat.reduceEqDiff, Go.Addr.add, ↓reduceIte] at hw207_0)
                      obtain rfl : ad204 = ad207 := (by injection e207)
                      (try simp only [show (1 : Int).toNat = 1 from rfl, Nat.reduceMul, Nat.reduceEqDiff, Go.Addr.add, ↓reduceIte] at hx207_0)
                      (try simp only [show (1 : Int).toNat = 1 from rfl, Nat.reduceMul, Nat.reduceEqDiff, Go.Addr.add, ↓reduceIte] at hx207_1)
                      (try simp only [show (1 : Int).toNat = 1 from rfl, Nat.reduceMul, Nat.reduceEqDiff, Go.Addr.add, ↓reduceIte] at hx207_2)
                      (try simp only [show (1 : Int).toNat = 1 from rfl, Nat.reduceMul, Nat.reduceEqDiff, Go.Addr.add, ↓reduceIte] at hx207_3)
                      (try simp only [show (1 : Int).toNat = 1 from rfl, Nat.reduceMul, Nat.reduceEqDiff, Go.Addr.add, ↓reduceIte] at hx207_4)
                      have qi207 : (1 < l0_4.length) = True := eq_true (by omega)
                      (try rw [show ((1 : Int)).toNat = 1 from rfl] at hx207_0)
                      (try rw [show 1 * 5 = 5 from rfl] at hx207_0)
                      (try rw [show ((1 : Int)).toNat = 1 from rfl] at hx207_1)
                      (try rw [show 1 * 5 = 5 from rfl] at hx207_1)
                      (try rw [show ((1 : Int)).toNat = 1 from rfl] at hx207_2)
                      (try rw [show 1 * 5 = 5 from rfl] at hx207_2)
                      (try rw [show ((1 : Int)).toNat = 1 from rfl] at hx207_3)
                      (try rw [show 1 * 5 = 5 from rfl] at hx207_3)
                      (try rw [show ((1 : Int)).toNat = 1 from rfl] at hx207_4)
                      (try rw [show 1 * 5 = 5 from rfl] at hx207_4)
                      replace hx207_0 := (HB.out.cell (World.block_lt_of_cell? w _ hx207_0)).trans hx207_0
                      replace hx207_1 := (HB.out.cell (World.block_lt_of_cell? w _ hx207_1)).trans hx207_1
                      replace hx207_2 := (HB.out.cell (World.block_lt_of_cell? w _ hx207_2)).trans hx207_2
                      replace hx207_3 := (HB.out.cell (World.block_lt_of_cell? w _ hx207_3)).trans hx207_3
                      replace hx207_4 := (HB.out.cell (World.block_lt_of_cell? w _ hx207_4)).trans hx207_4
                      have HR207_4 := Aside0.mk hi207_4
                      have HC207_4 := Aside0.mk hl207_4
                      clear hi207_4 hl207_4
                      replace p207 := eq_true p207
                      replace q207 := eq_true q207
                      refine start_ (n := 21) (S := fun w' => w'.cell? ⟨gb201, 0, none⟩ = some (.int .i64 a0_0) ∧ w'.cell? ⟨gb201, 1, none⟩ = some (.string a0_1) ∧ w'.cell? ⟨gb201, 2, none⟩ = some (.int .i64 a0_2) ∧ w'.cell? ⟨gb201, 3, none⟩ = some (.int .i64 a0_3) ∧ w'.cell? ⟨gb201, 4, none⟩ = some (.slice (some ad204) l0_4.length c0_4) ∧ w'.cell? ad204 = some (.int .i64 ((rd_T69 l0_4 0).f0.f0)) ∧ w'.cell? ⟨ad204.block, ad204.off + 1, none⟩ = some (.string ((rd_T69 l0_4 0).f0.f1)) ∧ w'.cell? ⟨ad204.block, ad204.off + 2, none⟩ = some (.int .i64 ((rd_T69 l0_4 0).f0.f2)) ∧ w'.cell? ⟨ad204.block, ad204.off + 3, none⟩ = some (.int .i64 ((rd_T69 l0_4 0).f1)) ∧ w'.cell? ⟨ad204.block, ad204.off + 4, none⟩ = some (.slice A204_4 ((rd_T69 l0_4 0).f2).length c204_4) ∧ w'.cell? ⟨ad204.block, ad204.off + 5, none⟩ = some (.int .i64 ((rd_T69 l0_4 1).f0.f0)) ∧ w'.cell? ⟨ad204.block, ad204.off + 5 + 1, none⟩ = some (.string ((rd_T69 l0_4 1).f0.f1)) ∧ w'.cell? ⟨ad204.block, ad204.off + 5 + 2, none⟩ = some (.int .i64 ((rd_T69 l0_4 1).f0.f2)) ∧ w'.cell? ⟨ad204.block, ad204.off + 5 + 3, none⟩ = some (.int .i64 ((rd_T69 l0_4 1).f1)) ∧ w'.cell? ⟨ad204.block, ad204.off + 5 + 4, none⟩ = some (.slice A207_4 ((rd_T69 l0_4 1).f2).length c207_4)) (ds := []) #[false, false, false, false, false, false, false, false, false, false, false, false, false, false, false, false, false, false, false, false, false] (by kernel_rfl) rfl rfl ⟨(blk_cell BK201.out 0).trans rfl, (blk_cell BK201.out 1).trans rfl, (blk_cell BK201.out 2).trans rfl, (blk_cell BK201.out 3).trans rfl, (blk_cell BK201.out 4).trans rfl, ((HB.out.cell (World.block_lt_of_cell? w _ hw204_0)).trans hw204_0), ((HB.out.cell (World.block_lt_of_cell? w _ hw204_1)).trans hw204_1), ((HB.out.cell (World.block_lt_of_cell? w _ hw204_2)).trans hw204_2), ((HB.out.cell (World.block_lt_of_cell? w _ hw204_3)).trans hw204_3), ((HB.out.cell (World.block_lt_of_cell? w _ hw204_4)).trans hw204_4), ((HB.out.cell (World.block_lt_of_cell? w _ hw207_0)).trans hw207_0), ((HB.out.cell (World.block_lt_of_cell? w _ hw207_1)).trans hw207_1), ((HB.out.cell (World.block_lt_of_cell? w _ hw207_2)).trans hw207_2), ((HB.out.cell (World.block_lt_of_cell? w _ hw207_3)).trans hw207_3), ((HB.out.cell (World.block_lt_of_cell? w _ hw207_4)).trans hw207_4)⟩ (fun hHeld => ?_); refine with_tabW syntax_Expr_in.tab4 syntax_Expr_in.bits4 (fun HT_ HW_ => ?_)
                      generalize w17.drew = w19 at BK201 HB HR204_4 HR207_4 hx204_0 hx204_1 hx204_2 hx204_3 hx204_4 hx207_0 hx207_1 hx207_2 hx207_3 hx207_4 hHeld ⊢
                      refine pure_ (i := 0) (N := some 17) (v := ?_) (a' := ?_) #[true, false, false, false, false, false, false, false, false, false, false, false, false, false, false, false, false, false, false, false, false] rfl rfl (any_of HT_.out (by kernel_rfl)) (fun _ _ _ h => h) (Or.inl ⟨by rfl, ?_⟩) ?_ ?_
                      rotate_left
                      · intro w'
                        go_simp
                        with_reducible rfl
                      rotate_left
                      · simp only [Act.put, List.setIfInBounds_toArray, List.set_cons_zero, List.set_cons_succ, i64_w, i32_w]
                        rfl
                      refine pure_ (i := 4) (N := some 21) (v := ?_) (a' := ?_) #[true, false, false, false, true, false, false, false, false, false, false, false, false, false, false, false, false, false, false, false, false] rfl rfl (any_of HT_.out (by kernel_rfl)) (fun _ _ _ h => h) (Or.inl ⟨by rfl, ?_⟩) ?_ ?_
                      rotate_left
                      · intro w'
                        go_simp
                        with_reducible rfl
                      rotate_left
                      · simp only [Act.put, List.setIfInBounds_toArray, List.set_cons_zero, List.set_cons_succ, i64_w, i32_w]
                        rfl
                      refine pure_ (i := 7) (N := some 24) (v := ?_) (a' := ?_) #[true, false, false, false, true, false, false, true, false, false, false, false, false, false, false, false, false, false, false, false, false] rfl rfl (any_of HT_.out (by kernel_rfl)) (fun _ _ _ h => h) (Or.inl ⟨by rfl, ?_⟩) ?_ ?_
                      rotate_left
                      · intro w'
                        go_simp
                        with_reducible rfl
                      rotate_left
                      · simp only [Act.put, List.setIfInBounds_toArray, List.set_cons_zero, List.set_cons_succ, i64_w, i32_w]
                        rfl
                      refine pure_ (i := 12) (N := some 29) (v := ?_) (a' := ?_) #[true, false, false, false, true, false, false, true, false, false, false, false, true, false, false, false, false, false, false, false, false] rfl rfl (any_of HT_.out (by kernel_rfl)) (fun _ _ _ h => h) (Or.inl ⟨by rfl, ?_⟩) ?_ ?_
                      rotate_left
                      · intro w'
                        go_simp
                        with_reducible rfl
                      rotate_left
                      · simp only [Act.put, List.setIfInBounds_toArray, List.set_cons_zero, List.set_cons_succ, i64_w, i32_w]
                        rfl
                      refine pure_ (i := 16) (N := some 33) (v := ?_) (a' := ?_) #[true, false, false, false, true, false, false, true, false, false, false, false, true, false, false, false, true, false, false, false, false] rfl rfl (any_of HT_.out (by kernel_rfl)) (fun _ _ _ h => h) (Or.inl ⟨by rfl, ?_⟩) ?_ ?_
                      rotate_left
                      · intro w'
                        go_simp
                        with_reducible rfl
                      rotate_left
                      · simp only [Act.put, List.setIfInBounds_toArray, List.set_cons_zero, List.set_cons_succ, i64_w, i32_w]
                        rfl
                      refine pure_ (i := 17) (N := some 34) (v := ?_) (a' := ?_) #[true, false, false, false, true, false, false, true, false, false, false, false, true, false, false, false, true, true, false, false, false] rfl rfl (any_of HT_.out (by kernel_rfl)) (fun _ _ _ h => h) (Or.inl ⟨by rfl, ?_⟩) ?_ ?_
                      rotate_left
                      · intro w'
                        go_simp
                        with_reducible rfl
                      rotate_left
                      · simp only [Act.put, List.setIfInBounds_toArray, List.set_cons_zero, List.set_cons_succ, i64_w, i32_w]
                        rfl
                      refine take_ (i := 1) (N := some 18) (v := ?_) (a' := ?_) #[true, true, false, false, true, false, false, true, false, false, false, false, true, false, false, false, true, true, false, false, false] rfl rfl (take_ofW HT_.out HW_.out (by kernel_rfl)) (fun _ _ _ h => h) (Or.inl ⟨by rfl, ?_⟩) hHeld ?_ ?_
                      rotate_left
                      · rintro w' ⟨s0, s1, s2, s3, s4, s5, s6, s7, s8, s9, s10, s11, s12, s13, s14⟩
                        go_simp
                        with_reducible rfl
                      rotate_left
                      · simp only [Act.put, List.setIfInBounds_toArray, List.set_cons_zero, List.set_cons_succ, i64_w, i32_w]
                        rfl
                      refine pure_ (i := 2) (N := some 19) (v := ?_) (a' := ?_) #[true, true, true, false, true, false, false, true, false, false, false, false, true, false, false, false, true, true, false, false, false] rfl rfl (any_of HT_.out (by kernel_rfl)) (fun _ _ _ h => h) (Or.inl ⟨by rfl, ?_⟩) ?_ ?_
                      rotate_left
                      · intro w'
                        go_simp
                        with_reducible rfl
                      rotate_left
                      · simp only [Act.put, List.setIfInBounds_toArray, List.set_cons_zero, List.set_cons_succ, i64_w, i32_w]
                        rfl
                      refine take_ (i := 3) (N := some 20) (v := ?_) (a' := ?_) #[true, true, true, true, true, false, false, true, false, false, false, false, true, false, false, false, true, true, false, false, false] rfl rfl (take_ofW HT_.out HW_.out (by kernel_rfl)) (fun _ _ _ h => h) (Or.inl ⟨by rfl, ?_⟩) hHeld ?_ ?_
                      rotate_left
                      · rintro w' ⟨s0, s1, s2, s3, s4, s5, s6, s7, s8, s9, s10, s11, s12, s13, s14⟩
                        go_simp
                        with_reducible rfl
                      rotate_left
                      · simp only [Act.put, List.setIfInBounds_toArray, List.set_cons_zero, List.set_cons_succ, i64_w, i32_w]
                        rfl
                      refine take_ (i := 8) (N := some 25) (v := ?_) (a' := ?_) #[true, true, true, true, true, false, false, true, true, false, false, false, true, false, false, false, true, true, false, false, false] rfl rfl (take_ofW HT_.out HW_.out (by kernel_rfl)) (fun _ _ _ h => h) (Or.inl ⟨by rfl, ?_⟩) hHeld ?_ ?_
                      rotate_left
                      · rintro w' ⟨s0, s1, s2, s3, s4, s5, s6, s7, s8, s9, s10, s11, s12, s13, s14⟩
                        go_simp
                        with_reducible rfl
                      rotate_left
                      · simp only [Act.put, List.setIfInBounds_toArray, List.set_cons_zero, List.set_cons_succ, i64_w, i32_w]
                        rfl
                      refine take_ (i := 13) (N := some 30) (v := ?_) (a' := ?_) #[true, true, true, true, true, false, false, true, true, false, false, false, true, true, false, false, true, true, false, false, false] rfl rfl (take_ofW HT_.out HW_.out (by kernel_rfl)) (fun _ _ _ h => h) (Or.inl ⟨by rfl, ?_⟩) hHeld ?_ ?_
                      rotate_left
                      · rintro w' ⟨s0, s1, s2, s3, s4, s5, s6, s7, s8, s9, s10, s11, s12, s13, s14⟩
                        go_simp
                        with_reducible rfl
                      rotate_left
                      · simp only [Act.put, List.setIfInBounds_toArray, List.set_cons_zero, List.set_cons_succ, i64_w, i32_w]
                        rfl
                      refine pure_ (i := 14) (N := some 31) (v := ?_) (a' := ?_) #[true, true, true, true, true, false, false, true, true, false, false, false, true, true, true, false, true, true, false, false, false] rfl rfl (any_of HT_.out (by kernel_rfl)) (fun _ _ _ h => h) (Or.inl ⟨by rfl, ?_⟩) ?_ ?_
                      rotate_left
                      · intro w'
                        go_simp
                        with_reducible rfl
                      rotate_left
                      · simp only [Act.put, List.setIfInBounds_toArray, List.set_cons_zero, List.set_cons_succ, i64_w, i32_w]
                        rfl
                      refine take_ (i := 15) (N := some 32) (v := ?_) (a' := ?_) #[true, true, true, true, true, false, false, true, true, false, false, false, true, true, true, true, true, true, false, false, false] rfl rfl (take_ofW HT_.out HW_.out (by kernel_rfl)) (fun _ _ _ h => h) (Or.inl ⟨by rfl, ?_⟩) hHeld ?_ ?_
                      rotate_left
                      · rintro w' ⟨s0, s1, s2, s3, s4, s5, s6, s7, s8, s9, s10, s11, s12, s13, s14⟩
                        go_simp
                        with_reducible rfl
                      rotate_left
                      · simp only [Act.put, List.setIfInBounds_toArray, List.set_cons_zero, List.set_cons_succ, i64_w, i32_w]
                        rfl
                      refine one_ (i := 5) (N := some 22) #[true, true, true, true, true, true, false, true, true, false, false, false, true, true, true, true, true, true, false, false, false] rfl rfl (one_of HT_.out (by kernel_rfl)) (by decide) (fun K hK => ?_)
                      refine goes_ Tryd.func56 (by kernel_rfl) rfl #[.agg #[.int .i64 ((rd_T69 l0_4 0).f0.f0), .string ((rd_T69 l0_4 0).f0.f1), .int .i64 ((rd_T69 l0_4 0).f0.f2), .int .i64 ((rd_T69 l0_4 0).f1), .slice A204_4 ((rd_T69 l0_4 0).f2).length c204_4], .int .i64 t203] (by rfl) rfl rfl (by (try simp only [List.map_toArray, List.map_cons, List.map_nil]); first | done | rfl | (simp only [List.length_drop, List.length_take]; rfl)) ?_
                      with_reducible refine (ih k (by omega) ((rd_T69 l0_4 0).f0.f0) ((rd_T69 l0_4 0).f0.f1) ((rd_T69 l0_4 0).f0.f2) ((rd_T69 l0_4 0).f1) _ _ ((rd_T69 l0_4 0).f2) t203 t205 _ ?side1 ?side2 A6.out ?hGl).mono ?_
                      (case side1 => repeat (first | exact (Kd.C_below HR204_4.out HB.out) | (with_reducible refine Kd.C_alloc ?_ _) | (with_reducible refine Kd.C_drewN ?_ _) | (with_reducible refine Kd.C_drew ?_)))
                      (case side2 => exact HC204_4.out)
                      (case hGl => exact tab_below hG (by repeat (first | (with_reducible first | exact HB.out | apply below_alloc | apply pw_below_drewN | apply below_drew1 | refine below_set ?_ GE201.out) | exact HB.out)))
                      rintro e w20 ⟨rfl, hb⟩
                      refine ⟨_, rfl, ?_⟩
                      have n0_ := Aside0.mk (blk_below (g := gb201) (o := .cells #[.int .i64 a0_0, .string a0_1, .int .i64 a0_2, .int .i64 a0_3, .slice (some ad204) l0_4.length c0_4] 69 (0, 0)) (by (with_reducible repeat (first | refine blk_drewN ?_ _ | refine blk_drew ?_ | refine blk_alloc ?_ _)); exact BK201.out) hb)
                      have n1_ := Aside0.mk (below_step (by repeat (first | (with_reducible first | exact HB.out | apply below_alloc | apply pw_below_drewN | apply below_drew1 | refine below_set ?_ GE201.out) | exact HB.out)) hb)
                      clear BK201
                      clear HB
                      have BK201 := n0_
                      have HB := n1_
                      clear n0_ n1_
                      (try clear hb)
                      (try clear hb2)
                      (try clear hk)
                      (try clear hi)
                      refine hK.out _ _ ⟨(blk_cell BK201.out 0).trans rfl, (blk_cell BK201.out 1).trans rfl, (blk_cell BK201.out 2).trans rfl, (blk_cell BK201.out 3).trans rfl, (blk_cell BK201.out 4).trans rfl, ((HB.out.cell (World.block_lt_of_cell? w _ hw204_0)).trans hw204_0), ((HB.out.cell (World.block_lt_of_cell? w _ hw204_1)).trans hw204_1), ((HB.out.cell (World.block_lt_of_cell? w _ hw204_2)).trans hw204_2), ((HB.out.cell (World.block_lt_of_cell? w _ hw204_3)).trans hw204_3), ((HB.out.cell (World.block_lt_of_cell? w _ hw204_4)).trans hw204_4), ((HB.out.cell (World.block_lt_of_cell? w _ hw207_0)).trans hw207_0), ((HB.out.cell (World.block_lt_of_cell? w _ hw207_1)).trans hw207_1), ((HB.out.cell (World.block_lt_of_cell? w _ hw207_2)).trans hw207_2), ((HB.out.cell (World.block_lt_of_cell? w _ hw207_3)).trans hw207_3), ((HB.out.cell (World.block_lt_of_cell? w _ hw207_4)).trans hw207_4)⟩ (fun hHeld => ?_)
                      clear hK K
                      refine norm_ (a' := ?_) ?_ ?_
                      rotate_left
                      · show Act.put _ (some 22) _ = _
                        simp only [Act.put, List.setIfInBounds_toArray, List.set_cons_zero, List.set_cons_succ, i64_w, i32_w]
                        rfl
                      refine pure_ (i := 6) (N := some 23) (v := ?_) (a' := ?_) #[true, true, true, true, true, true, true, true, true, false, false, false, true, true, true, true, true, true, false, false, false] rfl rfl (any_of HT_.out (by kernel_rfl)) (fun _ _ _ h => h) (Or.inl ⟨by rfl, ?_⟩) ?_ ?_
                      rotate_left
                      · intro w'
                        go_simp
                        with_reducible rfl
                      rotate_left
                      · simp only [Act.put, List.setIfInBounds_toArray, List.set_cons_zero, List.set_cons_succ, i64_w, i32_w]
                        rfl
                      refine one_ (i := 9) (N := some 26) #[true, true, true, true, true, true, true, true, true, true, false, false, true, true, true, true, true, true, false, false, false] rfl rfl (one_of HT_.out (by kernel_rfl)) (by decide) (fun K hK => ?_)
                      refine goes_ Tryd.func57 (by kernel_rfl) rfl #[.int .i64 a0_3] (by rfl) rfl rfl (by (try simp only [List.map_toArray, List.map_cons, List.map_nil]); first | done | rfl | (simp only [List.length_drop, List.length_take]; rfl)) ?_
                      with_reducible refine (arith_Op_Sign.calls a0_3 t206 _ A8.out).mono ?_
                      rintro e w21 ⟨rfl, hb⟩
                      refine ⟨_, rfl, ?_⟩
                      have n0_ := Aside0.mk (blk_below (g := gb201) (o := .cells #[.int .i64 a0_0, .string a0_1, .int .i64 a0_2, .int .i64 a0_3, .slice (some ad204) l0_4.length c0_4] 69 (0, 0)) (by (with_reducible repeat (first | refine blk_drewN ?_ _ | refine blk_drew ?_ | refine blk_alloc ?_ _)); exact BK201.out) hb)
                      have n1_ := Aside0.mk (below_step (by repeat (first | (with_reducible first | exact HB.out | apply below_alloc | apply pw_below_drewN | apply below_drew1 | refine below_set ?_ GE201.out) | exact HB.out)) hb)
                      clear BK201
                      clear HB
                      have BK201 := n0_
                      have HB := n1_
                      clear n0_ n1_
                      (try clear hb)
                      (try clear hb2)
                      (try clear hk)
                      (try clear hi)
                      refine hK.out _ _ ⟨(blk_cell BK201.out 0).trans rfl, (blk_cell BK201.out 1).trans rfl, (blk_cell BK201.out 2).trans rfl, (blk_cell BK201.out 3).trans rfl, (blk_cell BK201.out 4).trans rfl, ((HB.out.cell (World.block_lt_of_cell? w _ hw204_0)).trans hw204_0), ((HB.out.cell (World.block_lt_of_cell? w _ hw204_1)).trans hw204_1), ((HB.out.cell (World.block_lt_of_cell? w _ hw204_2)).trans hw204_2), ((HB.out.cell (World.block_lt_of_cell? w _ hw204_3)).trans hw204_3), ((HB.out.cell (World.block_lt_of_cell? w _ hw204_4)).trans hw204_4), ((HB.out.cell (World.block_lt_of_cell? w _ hw207_0)).trans hw207_0), ((HB.out.cell (World.block_lt_of_cell? w _ hw207_1)).trans hw207_1), ((HB.out.cell (World.block_lt_of_cell? w _ hw207_2)).trans hw207_2), ((HB.out.cell (World.block_lt_of_cell? w _ hw207_3)).trans hw207_3), ((HB.out.cell (World.block_lt_of_cell? w _ hw207_4)).trans hw207_4)⟩ (fun hHeld => ?_)
                      clear hK K
                      refine norm_ (a' := ?_) ?_ ?_
                      rotate_left
                      · show Act.put _ (some 26) _ = _
                        simp only [Act.put, List.setIfInBounds_toArray, List.set_cons_zero, List.set_cons_succ, i64_w, i32_w]
                        rfl
                      refine pure_ (i := 10) (N := some 27) (v := ?_) (a' := ?_) #[true, true, true, true, true, true, true, true, true, true, true, false, true, true, true, true, true, true, false, false, false] rfl rfl (any_of HT_.out (by kernel_rfl)) (fun _ _ _ h => h) (Or.inl ⟨by rfl, ?_⟩) ?_ ?_
                      rotate_left
                      · intro w'
                        go_simp
                        with_reducible rfl
                      rotate_left
                      · simp only [Act.put, List.setIfInBounds_toArray, List.set_cons_zero, List.set_cons_succ, i64_w, i32_w]
                        rfl
                      refine pure_ (i := 11) (N := some 28) (v := ?_) (a' := ?_) #[true, true, true, true, true, true, true, true, true, true, true, true, true, true, true, true, true, true, false, false, false] rfl rfl (any_of HT_.out (by kernel_rfl)) (fun _ _ _ h => h) (Or.inl ⟨by rfl, ?_⟩) ?_ ?_
                      rotate_left
                      · intro w'
                        go_simp
                        with_reducible rfl
                      rotate_left
                      · simp only [Act.put, List.setIfInBounds_toArray, List.set_cons_zero, List.set_cons_succ, i64_w, i32_w]
                        rfl
                      refine one_ (i := 18) (N := some 35) #[true, true, true, true, true, true, true, true, true, true, true, true, true, true, true, true, true, true, true, false, false] rfl rfl (one_of HT_.out (by kernel_rfl)) (by decide) (fun K hK => ?_)
                      refine goes_ Tryd.func56 (by kernel_rfl) rfl #[.agg #[.int .i64 ((rd_T69 l0_4 1).f0.f0), .string ((rd_T69 l0_4 1).f0.f1), .int .i64 ((rd_T69 l0_4 1).f0.f2), .int .i64 ((rd_T69 l0_4 1).f1), .slice A207_4 ((rd_T69 l0_4 1).f2).length c207_4], .int .i64 (wrap64 (t203 + 1))] (by rfl) rfl rfl (by (try simp only [List.map_toArray, List.map_cons, List.map_nil]); first | done | rfl | (simp only [List.length_drop, List.length_take]; rfl)) ?_
                      with_reducible refine (ih k (by omega) ((rd_T69 l0_4 1).f0.f0) ((rd_T69 l0_4 1).f0.f1) ((rd_T69 l0_4 1).f0.f2) ((rd_T69 l0_4 1).f1) _ _ ((rd_T69 l0_4 1).f2) (wrap64 (t203 + 1)) t208 _ ?side1 ?side2 A12.out ?hGl).mono ?_
                      (case side1 => repeat (first | exact (Kd.C_below HR207_4.out HB.out) | (with_reducible refine Kd.C_alloc ?_ _) | (with_reducible refine Kd.C_drewN ?_ _) | (with_reducible refine Kd.C_drew ?_)))
                      (case side2 => exact HC207_4.out)
                      (case hGl => exact tab_below hG (by repeat (first | (with_reducible first | exact HB.out | apply below_alloc | apply pw_below_drewN | apply below_drew1 | refine below_set ?_ GE201.out) | exact HB.out)))
                      rintro e w22 ⟨rfl, hb⟩
                      refine ⟨_, rfl, ?_⟩
                      have n0_ := Aside0.mk (blk_below (g := gb201) (o := .cells #[.int .i64 a0_0, .string a0_1, .int .i64 a0_2, .int .i64 a0_3, .slice (some ad204) l0_4.length c0_4] 69 (0, 0)) (by (with_reducible repeat (first | refine blk_drewN ?_ _ | refine blk_drew ?_ | refine blk_alloc ?_ _)); exact BK201.out) hb)
                      have n1_ := Aside0.mk (below_step (by repeat (first | (with_reducible first | exact HB.out | apply below_alloc | apply pw_below_drewN | apply below_drew1 | refine below_set ?_ GE201.out) | exact HB.out)) hb)
                      clear BK201
                      clear HB
                      have BK201 := n0_
                      have HB := n1_
                      clear n0_ n1_
                      (try clear hb)
                      (try clear hb2)
                      (try clear hk)
                      (try clear hi)
                      refine hK.out _ _ ⟨(blk_cell BK201.out 0).trans rfl, (blk_cell BK201.out 1).trans rfl, (blk_cell BK201.out 2).trans rfl, (blk_cell BK201.out 3).trans rfl, (blk_cell BK201.out 4).trans rfl, ((HB.out.cell (World.block_lt_of_cell? w _ hw204_0)).trans hw204_0), ((HB.out.cell (World.block_lt_of_cell? w _ hw204_1)).trans hw204_1), ((HB.out.cell (World.block_lt_of_cell? w _ hw204_2)).trans hw204_2), ((HB.out.cell (World.block_lt_of_cell? w _ hw204_3)).trans hw204_3), ((HB.out.cell (World.block_lt_of_cell? w _ hw204_4)).trans hw204_4), ((HB.out.cell (World.block_lt_of_cell? w _ hw207_0)).trans hw207_0), ((HB.out.cell (World.block_lt_of_cell? w _ hw207_1)).trans hw207_1), ((HB.out.cell (World.block_lt_of_cell? w _ hw207_2)).trans hw207_2), ((HB.out.cell (World.block_lt_of_cell? w _ hw207_3)).trans hw207_3), ((HB.out.cell (World.block_lt_of_cell? w _ hw207_4)).trans hw207_4)⟩ (fun hHeld => ?_)
                      clear hK K
                      refine norm_ (a' := ?_) ?_ ?_
                      rotate_left
                      · show Act.put _ (some 35) _ = _
                        simp only [Act.put, List.setIfInBounds_toArray, List.set_cons_zero, List.set_cons_succ, i64_w, i32_w]
                        rfl
                      refine pure_ (i := 19) (N := some 36) (v := ?_) (a' := ?_) #[true, true, true, true, true, true, true, true, true, true, true, true, true, true, true, true, true, true, true, true, false] rfl rfl (any_of HT_.out (by kernel_rfl)) (fun _ _ _ h => h) (Or.inl ⟨by rfl, ?_⟩) ?_ ?_
                      rotate_left
                      · intro w'
                        go_simp
                        with_reducible rfl
                      rotate_left
                      · simp only [Act.put, List.setIfInBounds_toArray, List.set_cons_zero, List.set_cons_succ, i64_w, i32_w]
                        rfl
                      refine pure_ (i := 20) (N := some 6) (v := ?_) (a' := ?_) #[true, true, true, true, true, true, true, true, true, true, true, true, true, true, true, true, true, true, true, true, true] rfl rfl (any_of HT_.out (by kernel_rfl)) (fun _ _ _ h => h) (Or.inl ⟨by rfl, ?_⟩) ?_ ?_
                      rotate_left
                      · intro w'
                        go_simp
                        with_reducible rfl
                      rotate_left
                      · simp only [Act.put, List.setIfInBounds_toArray, List.set_cons_zero, List.set_cons_succ, i64_w, i32_w]
                        rfl
                      refine done_ (done_of HT_.out (by kernel_rfl)) ?_
                      try go_wp2
                      go_ret
                      exact ⟨by first | rfl | (simp [errW_none, errW_some] <;> rfl) | (simp [*, errW_none, errW_some] <;> rfl), by repeat (first | (with_reducible first | exact HB.out | apply below_alloc | apply pw_below_drewN | apply below_drew1 | refine below_set ?_ GE201.out) | exact HB.out)⟩
                    · rw [if_neg c16] at H
                      exact absurd H (by simp)
                  · rw [if_neg c15] at H
                    exact absurd H (by simp)
                · rw [if_neg c14] at H
                  have c14b0 : decide (t203 < a1) = false := decide_eq_false c14
                  clear c14
                  obtain rfl := Option.some.inj H
                  go_enter Tryd.func56, Tryd.ntmps56
                  try go_wp2_with (first | ((with_reducible refine gate_dst (N := 2) rfl ?_); refine box_event ?hg (N := 2) ?hd (cs := #[.int .i64 a0_0, .string a0_1, .int .i64 a0_2, .int .i64 a0_3, .slice A0_4 l0_4.length c0_4]) (t := 69) ?hr ?_; (case hd => rfl); (case hg => rfl); (case hr => first | (go_simp; done) | (go_simp; rfl)); intro gb201 hg w23 hbox hb; have n0_ := Aside0.mk (below_step (by repeat (first | (with_reducible first | exact HB.out | apply below_alloc | apply pw_below_drewN | apply below_drew1) | exact HB.out)) hb); have n1_ := Aside0.mk (hbox); have n2_ := Aside0.mk ((by rw [hg]; exact (below_size (by repeat (first | (with_reducible first | exact HB.out | apply below_alloc | apply pw_below_drewN | apply below_drew1) | exact HB.out))) : w.heap.size ≤ gb201)); have n3_ := Aside0.mk ((by rw [hg]; exact (below_size (by repeat (first | (with_reducible first | exact HB.out | apply below_alloc | apply pw_below_drewN | apply below_drew1) | exact HB.out))) : w.heap.size ≤ gb201)); clear HB; have HB := n0_; have BK201 := n1_; have GW201 := n2_; have GE201 := n3_; clear n0_ n1_ n2_ n3_; clear hb hbox hg; have hcz24_0 : w23.cell? ⟨gb201, 0, none⟩ = some (.int .i64 a0_0) := (blk_cell BK201.out 0).trans rfl; have hcz24_1 : w23.cell? ⟨gb201, 1, none⟩ = some (.string a0_1) := (blk_cell BK201.out 1).trans rfl; have hcz24_2 : w23.cell? ⟨gb201, 2, none⟩ = some (.int .i64 a0_2) := (blk_cell BK201.out 2).trans rfl; have hcz24_3 : w23.cell? ⟨gb201, 3, none⟩ = some (.int .i64 a0_3) := (blk_cell BK201.out 3).trans rfl; have hcz24_4 : w23.cell? ⟨gb201, 4, none⟩ = some (.slice A0_4 l0_4.length c0_4) := (blk_cell BK201.out 4).trans rfl; have hfz24_0 := blk_frozen BK201.out 0; have hfz24_1 := blk_frozen BK201.out 1; have hfz24_2 := blk_frozen BK201.out 2; have hfz24_3 := blk_frozen BK201.out 3; have hfz24_4 := blk_frozen BK201.out 4) | ((with_reducible refine gate_callee (f := 78) rfl ?_); refine goesL_ (some 16) rfl rfl Tryd.func78 (by kernel_rfl) rfl #[.int .i64 a0_3] rfl (by (try simp only [List.map_toArray, List.map_cons, List.map_nil]); first | done | rfl | (simp only [List.length_drop, List.length_take]; rfl)) ?_; (with_reducible refine (syntax_level.calls a0_3 t203 _ A4.out).mono ?_); rintro e w' ⟨rfl, ⟨nd, rfl⟩⟩; refine ⟨_, rfl, ?_⟩))
                  (try (rw [drewN_self w23]; generalize hq_ : World.drewN w23 _ = w23; have n0_ : Aside0 (w23.heap[gb201]? = some (.cells #[.int .i64 a0_0, .string a0_1, .int .i64 a0_2, .int .i64 a0_3, .slice A0_4 l0_4.length c0_4] 69 (0, 0))) := ⟨by rw [← hq_]; exact (by (with_reducible repeat (first | refine blk_drewN ?_ _ | refine blk_drew ?_ | refine blk_alloc ?_ _)); exact BK201.out)⟩; have n1_ : Aside0 (Below w.heap.size w w23) := ⟨by rw [← hq_]; exact (by repeat (first | (with_reducible first | exact HB.out | apply below_alloc | apply pw_below_drewN | apply below_drew1 | refine below_set ?_ GE201.out) | exact HB.out))⟩; clear BK201 HB hq_; have BK201 := n0_; have HB := n1_; clear n0_ n1_))
                  have n0_ := Aside0.mk (blk_drew BK201.out)
                  have n1_ := Aside0.mk (below_drew1 HB.out)
                  clear BK201
                  clear HB
                  have BK201 := n0_
                  have HB := n1_
                  clear n0_ n1_
                  have p204 : 0 ≤ (0 : Int) := (by omega)
                  have q204 : 0 < (l0_4.length : Int) := of_decide_eq_true (by first | (with_reducible assumption) | assumption)
                  obtain ⟨ad204, A204_4, c204_4, e204, hx204_0, hx204_1, hx204_2, hx204_3, hx204_4, hl204_4, hi204_4⟩ := at_T69 HR0_4.out 0 p204 q204
                  have hw204_4 := hx204_4
                  (try rw [show ((0 : Int)).toNat = 0 from rfl] at hw204_4)
                  (try rw [show 0 * 5 = 0 from rfl] at hw204_4)
                  (try rw [Addr.add_zero'] at hw204_4)
                  have hw204_3 := hx204_3
                  (try rw [show ((0 : Int)).toNat = 0 from rfl] at hw204_3)
                  (try rw [show 0 * 5 = 0 from rfl] at hw204_3)
                  (try rw [Addr.add_zero'] at hw204_3)
                  have hw204_2 := hx204_2
                  (try rw [show ((0 : Int)).toNat = 0 from rfl] at hw204_2)
                  (try rw [show 0 * 5 = 0 from rfl] at hw204_2)
                  (try rw [Addr.add_zero'] at hw204_2)
                  have hw204_1 := hx204_1
                  (try rw [show ((0 : Int)).toNat = 0 from rfl] at hw204_1)
                  (try rw [show 0 * 5 = 0 from rfl] at hw204_1)
                  (try rw [Addr.add_zero'] at hw204_1)
                  have hw204_0 := hx204_0
                  (try rw [show ((0 : Int)).toNat = 0 from rfl] at hw204_0)
                  (try rw [show 0 * 5 = 0 from rfl] at hw204_0)
                  (try rw [Addr.add_zero'] at hw204_0)
                  cases e204
                  have qi204 : (0 < l0_4.length) = True := eq_true (by omega)
                  (try rw [show ((0 : Int)).toNat = 0 from rfl] at hx204_0)
                  (try rw [show 0 * 5 = 0 from rfl] at hx204_0)
                  (try rw [Addr.add_zero'] at hx204_0)
                  (try rw [show ((0 : Int)).toNat = 0 from rfl] at hx204_1)
                  (try rw [show 0 * 5 = 0 from rfl] at hx204_1)
                  (try rw [Addr.add_zero'] at hx204_1)
                  (try rw [show ((0 : Int)).toNat = 0 from rfl] at hx204_2)
                  (try rw [show 0 * 5 = 0 from rfl] at hx204_2)
                  (try rw [Addr.add_zero'] at hx204_2)
                  (try rw [show ((0 : Int)).toNat = 0 from rfl] at hx204_3)
                  (try rw [show 0 * 5 = 0 from rfl] at hx204_3)
                  (try rw [Addr.add_zero'] at hx204_3)
                  (try rw [show ((0 : Int)).toNat = 0 from rfl] at hx204_4)
                  (try rw [show 0 * 5 = 0 from rfl] at hx204_4)
                  (try rw [Addr.add_zero'] at hx204_4)
                  replace hx204_0 := (HB.out.cell (World.block_lt_of_cell? w _ hx204_0)).trans hx204_0
                  replace hx204_1 := (HB.out.cell (World.block_lt_of_cell? w _ hx204_1)).trans hx204_1
                  replace hx204_2 := (HB.out.cell (World.block_lt_of_cell? w _ hx204_2)).trans hx204_2
                  replace hx204_3 := (HB.out.cell (World.block_lt_of_cell? w _ hx204_3)).trans hx204_3
                  replace hx204_4 := (HB.out.cell (World.block_lt_of_cell? w _ hx204_4)).trans hx204_4
                  have HR204_4 := Aside0.mk hi204_4
                  have HC204_4 := Aside0.mk hl204_4
                  clear hi204_4 hl204_4
                  replace p204 := eq_true p204
                  replace q204 := eq_true q204
                  have p207 : 0 ≤ (1 : Int) := (by omega)
                  have q207 : 1 < (l0_4.length : Int) := of_decide_eq_true (by first | (with_reducible assumption) | assumption)
                  obtain ⟨ad207, A207_4, c207_4, e207, hx207_0, hx207_1, hx207_2, hx207_3, hx207_4, hl207_4, hi207_4⟩ := at_T69 HR0_4.out 1 p207 q207
                  have hw207_4 := hx207_4
                  (try rw [show ((1 : Int)).toNat = 1 from rfl] at hw207_4)
                  (try rw [show 1 * 5 = 5 from rfl] at hw207_4)
                  (try simp only [Nat.reduceMul, Nat.reduceEqDiff, Go.Addr.add, ↓reduceIte] at hw207_4)
                  have hw207_3 := hx207_3
                  (try rw [show ((1 : Int)).toNat = 1 from rfl] at hw207_3)
                  (try rw [show 1 * 5 = 5 from rfl] at hw207_3)
                  (try simp only [Nat.reduceMul, Nat.reduceEqDiff, Go.Addr.add, ↓reduceIte] at hw207_3)
                  have hw207_2 := hx207_2
                  (try rw [show ((1 : Int)).toNat = 1 from rfl] at hw207_2)
                  (try rw [show 1 * 5 = 5 from rfl] at hw207_2)
                  (try simp only [Nat.reduceMul, Nat.reduceEqDiff, Go.Addr.add, ↓reduceIte] at hw207_2)
                  have hw207_1 := hx207_1
                  (try rw [show ((1 : Int)).toNat = 1 from rfl] at hw207_1)
                  (try rw [show 1 * 5 = 5 from rfl] at hw207_1)
                  (try simp only [Nat.reduceMul, Nat.reduceEqDiff, Go.Addr.add, ↓reduceIte] at hw207_1)
                  have hw207_0 := hx207_0
                  (try rw [show ((1 : Int)).toNat = 1 from rfl] at hw207_0)
                  (try rw [show 1 * 5 = 5 from rfl] at hw207_0)
                  (try simp only [Nat.reduceMul, Nat.reduceEqDiff, Go.Addr.add, ↓reduceIte] at hw207_0)
                  obtain rfl : ad204 = ad207 := (by injection e207)
                  (try simp only [show (1 : Int).toNat = 1 from rfl, Nat.reduceMul, Nat.reduceEqDiff, Go.Addr.add, ↓reduceIte] at hx207_0)
                  (try simp only [show (1 : Int).toNat = 1 from rfl, Nat.reduceMul, Nat.reduceEqDiff, Go.Addr.add, ↓reduceIte] at hx207_1)
                  (try simp only [show (1 : Int).toNat = 1 from rfl, Nat.reduceMul, Nat.reduceEqDiff, Go.Addr.add, ↓reduceIte] at hx207_2)
                  (try simp only [show (1 : Int).toNat = 1 from rfl, Nat.reduceMul, Nat.reduceEqDiff, Go.Addr.add, ↓reduceIte] at hx207_3)
                  (try simp only [show (1 : Int).toNat = 1 from rfl, Nat.reduceMul, Nat.reduceEqDiff, Go.Addr.add, ↓reduceIte] at hx207_4)
                  have qi207 : (1 < l0_4.length) = True := eq_true (by omega)
                  (try rw [show ((1 : Int)).toNat = 1 from rfl] at hx207_0)
                  (try rw [show 1 * 5 = 5 from rfl] at hx207_0)
                  (try rw [show ((1 : Int)).toNat = 1 from rfl] at hx207_1)
                  (try rw [show 1 * 5 = 5 from rfl] at hx207_1)
                  (try rw [show ((1 : Int)).toNat = 1 from rfl] at hx207_2)
                  (try rw [show 1 * 5 = 5 from rfl] at hx207_2)
                  (try rw [show ((1 : Int)).toNat = 1 from rfl] at hx207_3)
                  (try rw [show 1 * 5 = 5 from rfl] at hx207_3)
                  (try rw [show ((1 : Int)).toNat = 1 from rfl] at hx207_4)
                  (try rw [show 1 * 5 = 5 from rfl] at hx207_4)
                  replace hx207_0 := (HB.out.cell (World.block_lt_of_cell? w _ hx207_0)).trans hx207_0
                  replace hx207_1 := (HB.out.cell (World.block_lt_of_cell? w _ hx207_1)).trans hx207_1
                  replace hx207_2 := (HB.out.cell (World.block_lt_of_cell? w _ hx207_2)).trans hx207_2
                  replace hx207_3 := (HB.out.cell (World.block_lt_of_cell? w _ hx207_3)).trans hx207_3
                  replace hx207_4 := (HB.out.cell (World.block_lt_of_cell? w _ hx207_4)).trans hx207_4
                  have HR207_4 := Aside0.mk hi207_4
                  have HC207_4 := Aside0.mk hl207_4
                  clear hi207_4 hl207_4
                  replace p207 := eq_true p207
                  replace q207 := eq_true q207
                  refine start_ (n := 21) (S := fun w' => w'.cell? ⟨gb201, 0, none⟩ = some (.int .i64 a0_0) ∧ w'.cell? ⟨gb201, 1, none⟩ = some (.string a0_1) ∧ w'.cell? ⟨gb201, 2, none⟩ = some (.int .i64 a0_2) ∧ w'.cell? ⟨gb201, 3, none⟩ = some (.int .i64 a0_3) ∧ w'.cell? ⟨gb201, 4, none⟩ = some (.slice (some ad204) l0_4.length c0_4) ∧ w'.cell? ad204 = some (.int .i64 ((rd_T69 l0_4 0).f0.f0)) ∧ w'.cell? ⟨ad204.block, ad204.off + 1, none⟩ = some (.string ((rd_T69 l0_4 0).f0.f1)) ∧ w'.cell? ⟨ad204.block, ad204.off + 2, none⟩ = some (.int .i64 ((rd_T69 l0_4 0).f0.f2)) ∧ w'.cell? ⟨ad204.block, ad204.off + 3, none⟩ = some (.int .i64 ((rd_T69 l0_4 0).f1)) ∧ w'.cell? ⟨ad204.block, ad204.off + 4, none⟩ = some (.slice A204_4 ((rd_T69 l0_4 0).f2).length c204_4) ∧ w'.cell? ⟨ad204.block, ad204.off + 5, none⟩ = some (.int .i64 ((rd_T69 l0_4 1).f0.f0)) ∧ w'.cell? ⟨ad204.block, ad204.off + 5 + 1, none⟩ = some (.string ((rd_T69 l0_4 1).f0.f1)) ∧ w'.cell? ⟨ad204.block, ad204.off + 5 + 2, none⟩ = some (.int .i64 ((rd_T69 l0_4 1).f0.f2)) ∧ w'.cell? ⟨ad204.block, ad204.off + 5 + 3, none⟩ = some (.int .i64 ((rd_T69 l0_4 1).f1)) ∧ w'.cell? ⟨ad204.block, ad204.off + 5 + 4, none⟩ = some (.slice A207_4 ((rd_T69 l0_4 1).f2).length c207_4)) (ds := []) #[false, false, false, false, false, false, false, false, false, false, false, false, false, false, false, false, false, false, false, false, false] (by kernel_rfl) rfl rfl ⟨(blk_cell BK201.out 0).trans rfl, (blk_cell BK201.out 1).trans rfl, (blk_cell BK201.out 2).trans rfl, (blk_cell BK201.out 3).trans rfl, (blk_cell BK201.out 4).trans rfl, ((HB.out.cell (World.block_lt_of_cell? w _ hw204_0)).trans hw204_0), ((HB.out.cell (World.block_lt_of_cell? w _ hw204_1)).trans hw204_1), ((HB.out.cell (World.block_lt_of_cell? w _ hw204_2)).trans hw204_2), ((HB.out.cell (World.block_lt_of_cell? w _ hw204_3)).trans hw204_3), ((HB.out.cell (World.block_lt_of_cell? w _ hw204_4)).trans hw204_4), ((HB.out.cell (World.block_lt_of_cell? w _ hw207_0)).trans hw207_0), ((HB.out.cell (World.block_lt_of_cell? w _ hw207_1)).trans hw207_1), ((HB.out.cell (World.block_lt_of_cell? w _ hw207_2)).trans hw207_2), ((HB.out.cell (World.block_lt_of_cell? w _ hw207_3)).trans hw207_3), ((HB.out.cell (World.block_lt_of_cell? w _ hw207_4)).trans hw207_4)⟩ (fun hHeld => ?_); refine with_tabW syntax_Expr_in.tab4 syntax_Expr_in.bits4 (fun HT_ HW_ => ?_)
                  generalize w23.drew = w25 at BK201 HB HR204_4 HR207_4 hx204_0 hx204_1 hx204_2 hx204_3 hx204_4 hx207_0 hx207_1 hx207_2 hx207_3 hx207_4 hHeld ⊢
                  refine pure_ (i := 0) (N := some 17) (v := ?_) (a' := ?_) #[true, false, false, false, false, false, false, false, false, false, false, false, false, false, false, false, false, false, false, false, false] rfl rfl (any_of HT_.out (by kernel_rfl)) (fun _ _ _ h => h) (Or.inl ⟨by rfl, ?_⟩) ?_ ?_
                  rotate_left
                  · intro w'
                    go_simp
                    with_reducible rfl
                  rotate_left
                  · simp only [Act.put, List.setIfInBounds_toArray, List.set_cons_zero, List.set_cons_succ, i64_w, i32_w]
                    rfl
                  refine pure_ (i := 4) (N := some 21) (v := ?_) (a' := ?_) #[true, false, false, false, true, false, false, false, false, false, false, false, false, false, false, false, false, false, false, false, false] rfl rfl (any_of HT_.out (by kernel_rfl)) (fun _ _ _ h => h) (Or.inl ⟨by rfl, ?_⟩) ?_ ?_
                  rotate_left
                  · intro w'
                    go_simp
                    with_reducible rfl
                  rotate_left
                  · simp only [Act.put, List.setIfInBounds_toArray, List.set_cons_zero, List.set_cons_succ, i64_w, i32_w]
                    rfl
                  refine pure_ (i := 7) (N := some 24) (v := ?_) (a' := ?_) #[true, false, false, false, true, false, false, true, false, false, false, false, false, false, false, false, false, false, false, false, false] rfl rfl (any_of HT_.out (by kernel_rfl)) (fun _ _ _ h => h) (Or.inl ⟨by rfl, ?_⟩) ?_ ?_
                  rotate_left
                  · intro w'
                    go_simp
                    with_reducible rfl
                  rotate_left
                  · simp only [Act.put, List.setIfInBounds_toArray, List.set_cons_zero, List.set_cons_succ, i64_w, i32_w]
                    rfl
                  refine pure_ (i := 12) (N := some 29) (v := ?_) (a' := ?_) #[true, false, false, false, true, false, false, true, false, false, false, false, true, false, false, false, false, false, false, false, false] rfl rfl (any_of HT_.out (by kernel_rfl)) (fun _ _ _ h => h) (Or.inl ⟨by rfl, ?_⟩) ?_ ?_
                  rotate_left
                  · intro w'
                    go_simp
                    with_reducible rfl
                  rotate_left
                  · simp only [Act.put, List.setIfInBounds_toArray, List.set_cons_zero, List.set_cons_succ, i64_w, i32_w]
                    rfl
                  refine pure_ (i := 16) (N := some 33) (v := ?_) (a' := ?_) #[true, false, false, false, true, false, false, true, false, false, false, false, true, false, false, false, true, false, false, false, false] rfl rfl (any_of HT_.out (by kernel_rfl)) (fun _ _ _ h => h) (Or.inl ⟨by rfl, ?_⟩) ?_ ?_
                  rotate_left
                  · intro w'
                    go_simp
                    with_reducible rfl
                  rotate_left
                  · simp only [Act.put, List.setIfInBounds_toArray, List.set_cons_zero, List.set_cons_succ, i64_w, i32_w]
                    rfl
                  refine pure_ (i := 17) (N := some 34) (v := ?_) (a' := ?_) #[true, false, false, false, true, false, false, true, false, false, false, false, true, false, false, false, true, true, false, false, false] rfl rfl (any_of HT_.out (by kernel_rfl)) (fun _ _ _ h => h) (Or.inl ⟨by rfl, ?_⟩) ?_ ?_
                  rotate_left
                  · intro w'
                    go_simp
                    with_reducible rfl
                  rotate_left
                  · simp only [Act.put, List.setIfInBounds_toArray, List.set_cons_zero, List.set_cons_succ, i64_w, i32_w]
                    rfl
                  refine take_ (i := 1) (N := some 18) (v := ?_) (a' := ?_) #[true, true, false, false, true, false, false, true, false, false, false, false, true, false, false, false, true, true, false, false, false] rfl rfl (take_ofW HT_.out HW_.out (by kernel_rfl)) (fun _ _ _ h => h) (Or.inl ⟨by rfl, ?_⟩) hHeld ?_ ?_
                  rotate_left
                  · rintro w' ⟨s0, s1, s2, s3, s4, s5, s6, s7, s8, s9, s10, s11, s12, s13, s14⟩
                    go_simp
                    with_reducible rfl
                  rotate_left
                  · simp only [Act.put, List.setIfInBounds_toArray, List.set_cons_zero, List.set_cons_succ, i64_w, i32_w]
                    rfl
                  refine pure_ (i := 2) (N := some 19) (v := ?_) (a' := ?_) #[true, true, true, false, true, false, false, true, false, false, false, false, true, false, false, false, true, true, false, false, false] rfl rfl (any_of HT_.out (by kernel_rfl)) (fun _ _ _ h => h) (Or.inl ⟨by rfl, ?_⟩) ?_ ?_
                  rotate_left
                  · intro w'
                    go_simp
                    with_reducible rfl
                  rotate_left
                  · simp only [Act.put, List.setIfInBounds_toArray, List.set_cons_zero, List.set_cons_succ, i64_w, i32_w]
                    rfl
                  refine take_ (i := 3) (N := some 20) (v := ?_) (a' := ?_) #[true, true, true, true, true, false, false, true, false, false, false, false, true, false, false, false, true, true, false, false, false] rfl rfl (take_ofW HT_.out HW_.out (by kernel_rfl)) (fun _ _ _ h => h) (Or.inl ⟨by rfl, ?_⟩) hHeld ?_ ?_
                  rotate_left
                  · rintro w' ⟨s0, s1, s2, s3, s4, s5, s6, s7, s8, s9, s10, s11, s12, s13, s14⟩
                    go_simp
                    with_reducible rfl
                  rotate_left
                  · simp only [Act.put, List.setIfInBounds_toArray, List.set_cons_zero, List.set_cons_succ, i64_w, i32_w]
                    rfl
                  refine take_ (i := 8) (N := some 25) (v := ?_) (a' := ?_) #[true, true, true, true, true, false, false, true, true, false, false, false, true, false, false, false, true, true, false, false, false] rfl rfl (take_ofW HT_.out HW_.out (by kernel_rfl)) (fun _ _ _ h => h) (Or.inl ⟨by rfl, ?_⟩) hHeld ?_ ?_
                  rotate_left
                  · rintro w' ⟨s0, s1, s2, s3, s4, s5, s6, s7, s8, s9, s10, s11, s12, s13, s14⟩
                    go_simp
                    with_reducible rfl
                  rotate_left
                  · simp only [Act.put, List.setIfInBounds_toArray, List.set_cons_zero, List.set_cons_succ, i64_w, i32_w]
                    rfl
                  refine take_ (i := 13) (N := some 30) (v := ?_) (a' := ?_) #[true, true, true, true, true, false, false, true, true, false, false, false, true, true, false, false, true, true, false, false, false] rfl rfl (take_ofW HT_.out HW_.out (by kernel_rfl)) (fun _ _ _ h => h) (Or.inl ⟨by rfl, ?_⟩) hHeld ?_ ?_
                  rotate_left
                  · rintro w' ⟨s0, s1, s2, s3, s4, s5, s6, s7, s8, s9, s10, s11, s12, s13, s14⟩
                    go_simp
                    with_reducible rfl
                  rotate_left
                  · simp only [Act.put, List.setIfInBounds_toArray, List.set_cons_zero, List.set_cons_succ, i64_w, i32_w]
                    rfl
                  refine pure_ (i := 14) (N := some 31) (v := ?_) (a' := ?_) #[true, true, true, true, true, false, false, true, true, false, false, false, true, true, true, false, true, true, false, false, false] rfl rfl (any_of HT_.out (by kernel_rfl)) (fun _ _ _ h => h) (Or.inl ⟨by rfl, ?_⟩) ?_ ?_
                  rotate_left
                  · intro w'
                    go_simp
                    with_reducible rfl
                  rotate_left
                  · simp only [Act.put, List.setIfInBounds_toArray, List.set_cons_zero, List.set_cons_succ, i64_w, i32_w]
                    rfl
                  refine take_ (i := 15) (N := some 32) (v := ?_) (a' := ?_) #[true, true, true, true, true, false, false, true, true, false, false, false, true, true, true, true, true, true, false, false, false] rfl rfl (take_ofW HT_.out HW_.out (by kernel_rfl)) (fun _ _ _ h => h) (Or.inl ⟨by rfl, ?_⟩) hHeld ?_ ?_
                  rotate_left
                  · rintro w' ⟨s0, s1, s2, s3, s4, s5, s6, s7, s8, s9, s10, s11, s12, s13, s14⟩
                    go_simp
                    with_reducible rfl
                  rotate_left
                  · simp only [Act.put, List.setIfInBounds_toArray, List.set_cons_zero, List.set_cons_succ, i64_w, i32_w]
                    rfl
                  refine one_ (i := 5) (N := some 22) #[true, true, true, true, true, true, false, true, true, false, false, false, true, true, true, true, true, true, false, false, false] rfl rfl (one_of HT_.out (by kernel_rfl)) (by decide) (fun K hK => ?_)
                  refine goes_ Tryd.func56 (by kernel_rfl) rfl #[.agg #[.int .i64 ((rd_T69 l0_4 0).f0.f0), .string ((rd_T69 l0_4 0).f0.f1), .int .i64 ((rd_T69 l0_4 0).f0.f2), .int .i64 ((rd_T69 l0_4 0).f1), .slice A204_4 ((rd_T69 l0_4 0).f2).length c204_4], .int .i64 t203] (by rfl) rfl rfl (by (try simp only [List.map_toArray, List.map_cons, List.map_nil]); first | done | rfl | (simp only [List.length_drop, List.length_take]; rfl)) ?_
                  with_reducible refine (ih k (by omega) ((rd_T69 l0_4 0).f0.f0) ((rd_T69 l0_4 0).f0.f1) ((rd_T69 l0_4 0).f0.f2) ((rd_T69 l0_4 0).f1) _ _ ((rd_T69 l0_4 0).f2) t203 t205 _ ?side1 ?side2 A6.out ?hGl).mono ?_
                  (case side1 => repeat (first | exact (Kd.C_below HR204_4.out HB.out) | (with_reducible refine Kd.C_alloc ?_ _) | (with_reducible refine Kd.C_drewN ?_ _) | (with_reducible refine Kd.C_drew ?_)))
                  (case side2 => exact HC204_4.out)
                  (case hGl => exact tab_below hG (by repeat (first | (with_reducible first | exact HB.out | apply below_alloc | apply pw_below_drewN | apply below_drew1 | refine below_set ?_ GE201.out) | exact HB.out)))
                  rintro e w26 ⟨rfl, hb⟩
                  refine ⟨_, rfl, ?_⟩
                  have n0_ := Aside0.mk (blk_below (g := gb201) (o := .cells #[.int .i64 a0_0, .string a0_1, .int .i64 a0_2, .int .i64 a0_3, .slice (some ad204) l0_4.length c0_4] 69 (0, 0)) (by (with_reducible repeat (first | refine blk_drewN ?_ _ | refine blk_drew ?_ | refine blk_alloc ?_ _)); exact BK201.out) hb)
                  have n1_ := Aside0.mk (below_step (by repeat (first | (with_reducible first | exact HB.out | apply below_alloc | apply pw_below_drewN | apply below_drew1 | refine below_set ?_ GE201.out) | exact HB.out)) hb)
                  clear BK201
                  clear HB
                  have BK201 := n0_
                  have HB := n1_
                  clear n0_ n1_
                  (try clear hb)
                  (try clear hb2)
                  (try clear hk)
                  (try clear hi)
                  refine hK.out _ _ ⟨(blk_cell BK201.out 0).trans rfl, (blk_cell BK201.out 1).trans rfl, (blk_cell BK201.out 2).trans rfl, (blk_cell BK201.out 3).trans rfl, (blk_cell BK201.out 4).trans rfl, ((HB.out.cell (World.block_lt_of_cell? w _ hw204_0)).trans hw204_0), ((HB.out.cell (World.block_lt_of_cell? w _ hw204_1)).trans hw204_1), ((HB.out.cell (World.block_lt_of_cell? w _ hw204_2)).trans hw204_2), ((HB.out.cell (World.block_lt_of_cell? w _ hw204_3)).trans hw204_3), ((HB.out.cell (World.block_lt_of_cell? w _ hw204_4)).trans hw204_4), ((HB.out.cell (World.block_lt_of_cell? w _ hw207_0)).trans hw207_0), ((HB.out.cell (World.block_lt_of_cell? w _ hw207_1)).trans hw207_1), ((HB.out.cell (World.block_lt_of_cell? w _ hw207_2)).trans hw207_2), ((HB.out.cell (World.block_lt_of_cell? w _ hw207_3)).trans hw207_3), ((HB.out.cell (World.block_lt_of_cell? w _ hw207_4)).trans hw207_4)⟩ (fun hHeld => ?_)
                  clear hK K
                  refine norm_ (a' := ?_) ?_ ?_
                  rotate_left
                  · show Act.put _ (some 22) _ = _
                    simp only [Act.put, List.setIfInBounds_toArray, List.set_cons_zero, List.set_cons_succ, i64_w, i32_w]
                    rfl
                  refine pure_ (i := 6) (N := some 23) (v := ?_) (a' := ?_) #[true, true, true, true, true, true, true, true, true, false, false, false, true, true, true, true, true, true, false, false, false] rfl rfl (any_of HT_.out (by kernel_rfl)) (fun _ _ _ h => h) (Or.inl ⟨by rfl, ?_⟩) ?_ ?_
                  rotate_left
                  · intro w'
                    go_simp
                    with_reducible rfl
                  rotate_left
                  · simp only [Act.put, List.setIfInBounds_toArray, List.set_cons_zero, List.set_cons_succ, i64_w, i32_w]
                    rfl
                  refine one_ (i := 9) (N := some 26) #[true, true, true, true, true, true, true, true, true, true, false, false, true, true, true, true, true, true, false, false, false] rfl rfl (one_of HT_.out (by kernel_rfl)) (by decide) (fun K hK => ?_)
                  refine goes_ Tryd.func57 (by kernel_rfl) rfl #[.int .i64 a0_3] (by rfl) rfl rfl (by (try simp only [List.map_toArray, List.map_cons, List.map_nil]); first | done | rfl | (simp only [List.length_drop, List.length_take]; rfl)) ?_
                  with_reducible refine (arith_Op_Sign.calls a0_3 t206 _ A8.out).mono ?_
                  rintro e w27 ⟨rfl, hb⟩
                  refine ⟨_, rfl, ?_⟩
                  have n0_ := Aside0.mk (blk_below (g := gb201) (o := .cells #[.int .i64 a0_0, .string a0_1, .int .i64 a0_2, .int .i64 a0_3, .slice (some ad204) l0_4.length c0_4] 69 (0, 0)) (by (with_reducible repeat (first | refine blk_drewN ?_ _ | refine blk_drew ?_ | refine blk_alloc ?_ _)); exact BK201.out) hb)
                  have n1_ := Aside0.mk (below_step (by repeat (first | (with_reducible first | exact HB.out | apply below_alloc | apply pw_below_drewN | apply below_drew1 | refine below_set ?_ GE201.out) | exact HB.out)) hb)
                  clear BK201
                  clear HB
                  have BK201 := n0_
                  have HB := n1_
                  clear n0_ n1_
                  (try clear hb)
                  (try clear hb2)
                  (try clear hk)
                  (try clear hi)
                  refine hK.out _ _ ⟨(blk_cell BK201.out 0).trans rfl, (blk_cell BK201.out 1).trans rfl, (blk_cell BK201.out 2).trans rfl, (blk_cell BK201.out 3).trans rfl, (blk_cell BK201.out 4).trans rfl, ((HB.out.cell (World.block_lt_of_cell? w _ hw204_0)).trans hw204_0), ((HB.out.cell (World.block_lt_of_cell? w _ hw204_1)).trans hw204_1), ((HB.out.cell (World.block_lt_of_cell? w _ hw204_2)).trans hw204_2), ((HB.out.cell (World.block_lt_of_cell? w _ hw204_3)).trans hw204_3), ((HB.out.cell (World.block_lt_of_cell? w _ hw204_4)).trans hw204_4), ((HB.out.cell (World.block_lt_of_cell? w _ hw207_0)).trans hw207_0), ((HB.out.cell (World.block_lt_of_cell? w _ hw207_1)).trans hw207_1), ((HB.out.cell (World.block_lt_of_cell? w _ hw207_2)).trans hw207_2), ((HB.out.cell (World.block_lt_of_cell? w _ hw207_3)).trans hw207_3), ((HB.out.cell (World.block_lt_of_cell? w _ hw207_4)).trans hw207_4)⟩ (fun hHeld => ?_)
                  clear hK K
                  refine norm_ (a' := ?_) ?_ ?_
                  rotate_left
                  · show Act.put _ (some 26) _ = _
                    simp only [Act.put, List.setIfInBounds_toArray, List.set_cons_zero, List.set_cons_succ, i64_w, i32_w]
                    rfl
                  refine pure_ (i := 10) (N := some 27) (v := ?_) (a' := ?_) #[true, true, true, true, true, true, true, true, true, true, true, false, true, true, true, true, true, true, false, false, false] rfl rfl (any_of HT_.out (by kernel_rfl)) (fun _ _ _ h => h) (Or.inl ⟨by rfl, ?_⟩) ?_ ?_
                  rotate_left
                  · intro w'
                    go_simp
                    with_reducible rfl
                  rotate_left
                  · simp only [Act.put, List.setIfInBounds_toArray, List.set_cons_zero, List.set_cons_succ, i64_w, i32_w]
                    rfl
                  refine pure_ (i := 11) (N := some 28) (v := ?_) (a' := ?_) #[true, true, true, true, true, true, true, true, true, true, true, true, true, true, true, true, true, true, false, false, false] rfl rfl (any_of HT_.out (by kernel_rfl)) (fun _ _ _ h => h) (Or.inl ⟨by rfl, ?_⟩) ?_ ?_
                  rotate_left
                  · intro w'
                    go_simp
                    with_reducible rfl
                  rotate_left
                  · simp only [Act.put, List.setIfInBounds_toArray, List.set_cons_zero, List.set_cons_succ, i64_w, i32_w]
                    rfl
                  refine one_ (i := 18) (N := some 35) #[true, true, true, true, true, true, true, true, true, true, true, true, true, true, true, true, true, true, true, false, false] rfl rfl (one_of HT_.out (by kernel_rfl)) (by decide) (fun K hK => ?_)
                  refine goes_ Tryd.func56 (by kernel_rfl) rfl #[.agg #[.int .i64 ((rd_T69 l0_4 1).f0.f0), .string ((rd_T69 l0_4 1).f0.f1), .int .i64 ((rd_T69 l0_4 1).f0.f2), .int .i64 ((rd_T69 l0_4 1).f1), .slice A207_4 ((rd_T69 l0_4 1).f2).length c207_4], .int .i64 (wrap64 (t203 + 1))] (by rfl) rfl rfl (by (try simp only [List.map_toArray, List.map_cons, List.map_nil]); first | done | rfl | (simp only [List.length_drop, List.length_take]; rfl)) ?_
                  with_reducible refine (ih k (by omega) ((rd_T69 l0_4 1).f0.f0) ((rd_T69 l0_4 1).f0.f1) ((rd_T69 l0_4 1).f0.f2) ((rd_T69 l0_4 1).f1) _ _ ((rd_T69 l0_4 1).f2) (wrap64 (t203 + 1)) t208 _ ?side1 ?side2 A12.out ?hGl).mono ?_
                  (case side1 => repeat (first | exact (Kd.C_below HR207_4.out HB.out) | (with_reducible refine Kd.C_alloc ?_ _) | (with_reducible refine Kd.C_drewN ?_ _) | (with_reducible refine Kd.C_drew ?_)))
                  (case side2 => exact HC207_4.out)
                  (case hGl => exact tab_below hG (by repeat (first | (with_reducible first | exact HB.out | apply below_alloc | apply pw_below_drewN | apply below_drew1 | refine below_set ?_ GE201.out) | exact HB.out)))
                  rintro e w28 ⟨rfl, hb⟩
                  refine ⟨_, rfl, ?_⟩
                  have n0_ := Aside0.mk (blk_below (g := gb201) (o := .cells #[.int .i64 a0_0, .string a0_1, .int .i64 a0_2, .int .i64 a0_3, .slice (some ad204) l0_4.length c0_4] 69 (0, 0)) (by (with_reducible repeat (first | refine blk_drewN ?_ _ | refine blk_drew ?_ | refine blk_alloc ?_ _)); exact BK201.out) hb)
                  have n1_ := Aside0.mk (below_step (by repeat (first | (with_reducible first | exact HB.out | apply below_alloc | apply pw_below_drewN | apply below_drew1 | refine below_set ?_ GE201.out) | exact HB.out)) hb)
                  clear BK201
                  clear HB
                  have BK201 := n0_
                  have HB := n1_
                  clear n0_ n1_
                  (try clear hb)
                  (try clear hb2)
                  (try clear hk)
                  (try clear hi)
                  refine hK.out _ _ ⟨(blk_cell BK201.out 0).trans rfl, (blk_cell BK201.out 1).trans rfl, (blk_cell BK201.out 2).trans rfl, (blk_cell BK201.out 3).trans rfl, (blk_cell BK201.out 4).trans rfl, ((HB.out.cell (World.block_lt_of_cell? w _ hw204_0)).trans hw204_0), ((HB.out.cell (World.block_lt_of_cell? w _ hw204_1)).trans hw204_1), ((HB.out.cell (World.block_lt_of_cell? w _ hw204_2)).trans hw204_2), ((HB.out.cell (World.block_lt_of_cell? w _ hw204_3)).trans hw204_3), ((HB.out.cell (World.block_lt_of_cell? w _ hw204_4)).trans hw204_4), ((HB.out.cell (World.block_lt_of_cell? w _ hw207_0)).trans hw207_0), ((HB.out.cell (World.block_lt_of_cell? w _ hw207_1)).trans hw207_1), ((HB.out.cell (World.block_lt_of_cell? w _ hw207_2)).trans hw207_2), ((HB.out.cell (World.block_lt_of_cell? w _ hw207_3)).trans hw207_3), ((HB.out.cell (World.block_lt_of_cell? w _ hw207_4)).trans hw207_4)⟩ (fun hHeld => ?_)
                  clear hK K
                  refine norm_ (a' := ?_) ?_ ?_
                  rotate_left
                  · show Act.put _ (some 35) _ = _
                    simp only [Act.put, List.setIfInBounds_toArray, List.set_cons_zero, List.set_cons_succ, i64_w, i32_w]
                    rfl
                  refine pure_ (i := 19) (N := some 36) (v := ?_) (a' := ?_) #[true, true, true, true, true, true, true, true, true, true, true, true, true, true, true, true, true, true, true, true, false] rfl rfl (any_of HT_.out (by kernel_rfl)) (fun _ _ _ h => h) (Or.inl ⟨by rfl, ?_⟩) ?_ ?_
                  rotate_left
                  · intro w'
                    go_simp
                    with_reducible rfl
                  rotate_left
                  · simp only [Act.put, List.setIfInBounds_toArray, List.set_cons_zero, List.set_cons_succ, i64_w, i32_w]
                    rfl
                  refine pure_ (i := 20) (N := some 6) (v := ?_) (a' := ?_) #[true, true, true, true, true, true, true, true, true, true, true, true, true, true, true, true, true, true, true, true, true] rfl rfl (any_of HT_.out (by kernel_rfl)) (fun _ _ _ h => h) (Or.inl ⟨by rfl, ?_⟩) ?_ ?_
                  rotate_left
                  · intro w'
                    go_simp
                    with_reducible rfl
                  rotate_left
                  · simp only [Act.put, List.setIfInBounds_toArray, List.set_cons_zero, List.set_cons_succ, i64_w, i32_w]
                    rfl
                  refine done_ (done_of HT_.out (by kernel_rfl)) ?_
                  try go_wp2
                  go_ret
                  exact ⟨by first | rfl | (simp [errW_none, errW_some] <;> rfl) | (simp [*, errW_none, errW_some] <;> rfl), by repeat (first | (with_reducible first | exact HB.out | apply below_alloc | apply pw_below_drewN | apply below_drew1 | refine below_set ?_ GE201.out) | exact HB.out)⟩
              · rw [if_neg c13] at H
                exact absurd H (by simp)
            · rw [if_neg c11] at H
              exact absurd H (by simp)
          · rw [if_neg c10] at H
            exact absurd H (by simp)
        · rw [if_neg c9] at H
          exact absurd H (by simp)
      · rw [if_neg c7] at H
        exact absurd H (by simp)
    · rw [if_neg c5] at H
      exact absurd H (by simp)
  · rw [if_neg c3] at H
    have c3b0 : ((l0_4.length : Int) == 2) = false := beq_eq_false_iff_ne.mpr c3
    have c3b1 : ((l0_4.length : Int) != 2) = true := bne_iff_ne.mpr c3
    replace H := Option.bind_eq_some_iff.mp H
    obtain ⟨t202, A290, H⟩ := H
    replace H : (some t202) = some r := H
    have A29 := Aside0.mk A290
    clear A290
    obtain rfl := Option.some.inj H
    go_enter Tryd.func56, Tryd.ntmps56
    go_wp2_with (first | ((with_reducible refine gate_dst (N := 2) rfl ?_); refine box_event ?hg (N := 2) ?hd (cs := #[.int .i64 a0_0, .string a0_1, .int .i64 a0_2, .int .i64 a0_3, .slice A0_4 l0_4.length c0_4]) (t := 69) ?hr ?_; (case hd => rfl); (case hg => rfl); (case hr => first | (go_simp; done) | (go_simp; rfl)); intro gb201 hg w30 hbox hb; have n0_ := Aside0.mk (below_step (by repeat (first | (with_reducible first | exact HB.out | apply below_alloc | apply pw_below_drewN | apply below_drew1) | exact HB.out)) hb); have n1_ := Aside0.mk (hbox); have n2_ := Aside0.mk ((by rw [hg]; exact (below_size (by repeat (first | (with_reducible first | exact HB.out | apply below_alloc | apply pw_below_drewN | apply below_drew1) | exact HB.out))) : w.heap.size ≤ gb201)); have n3_ := Aside0.mk ((by rw [hg]; exact (below_size (by repeat (first | (with_reducible first | exact HB.out | apply below_alloc | apply pw_below_drewN | apply below_drew1) | exact HB.out))) : w.heap.size ≤ gb201)); clear HB; have HB := n0_; have BK201 := n1_; have GW201 := n2_; have GE201 := n3_; clear n0_ n1_ n2_ n3_; clear hb hbox hg; have hcz31_0 : w30.cell? ⟨gb201, 0, none⟩ = some (.int .i64 a0_0) := (blk_cell BK201.out 0).trans rfl; have hcz31_1 : w30.cell? ⟨gb201, 1, none⟩ = some (.string a0_1) := (blk_cell BK201.out 1).trans rfl; have hcz31_2 : w30.cell? ⟨gb201, 2, none⟩ = some (.int .i64 a0_2) := (blk_cell BK201.out 2).trans rfl; have hcz31_3 : w30.cell? ⟨gb201, 3, none⟩ = some (.int .i64 a0_3) := (blk_cell BK201.out 3).trans rfl; have hcz31_4 : w30.cell? ⟨gb201, 4, none⟩ = some (.slice A0_4 l0_4.length c0_4) := (blk_cell BK201.out 4).trans rfl; have hfz31_0 := blk_frozen BK201.out 0; have hfz31_1 := blk_frozen BK201.out 1; have hfz31_2 := blk_frozen BK201.out 2; have hfz31_3 := blk_frozen BK201.out 3; have hfz31_4 := blk_frozen BK201.out 4) | ((with_reducible refine gate_callee (f := 22) rfl ?_); refine goesL_ (some 13) rfl rfl Tryd.func22 (by kernel_rfl) rfl #[.agg #[.int .i64 a0_0, .string a0_1, .int .i64 a0_2]] rfl (by (try simp only [List.map_toArray, List.map_cons, List.map_nil]); first | done | rfl | (simp only [List.length_drop, List.length_take]; rfl)) ?_; (with_reducible refine (syntax_Term_String.calls k a0_0 a0_1 a0_2 t202 _ A29.out ?hGl).mono ?_); (case hGl => exact tab_below hG (by repeat (first | (with_reducible first | exact HB.out | apply below_alloc | apply pw_below_drewN | apply below_drew1 | refine below_set ?_ GE201.out) | exact HB.out))); rintro e w32 ⟨rfl, hb⟩; refine ⟨_, rfl, ?_⟩; have n0_ := Aside0.mk (blk_below (g := gb201) (o := .cells #[.int .i64 a0_0, .string a0_1, .int .i64 a0_2, .int .i64 a0_3, .slice A0_4 l0_4.length c0_4] 69 (0, 0)) (by (with_reducible repeat (first | refine blk_drewN ?_ _ | refine blk_drew ?_ | refine blk_alloc ?_ _)); exact BK201.out) hb); have n1_ := Aside0.mk (below_step (by repeat (first | (with_reducible first | exact HB.out | apply below_alloc | apply pw_below_drewN | apply below_drew1 | refine below_set ?_ GE201.out) | exact HB.out)) hb); clear BK201; clear HB; have BK201 := n0_; have HB := n1_; clear n0_ n1_; (try clear hb); (try clear hb2); (try clear hk); (try clear hi)))
    go_ret
    exact ⟨by first | rfl | (simp [errW_none, errW_some] <;> rfl) | (simp [*, errW_none, errW_some] <;> rfl), by repeat (first | (with_reducible first | exact HB.out | apply below_alloc | apply pw_below_drewN | apply below_drew1 | refine below_set ?_ GE201.out) | exact HB.out)⟩
def syntax_Expr_String.f (k : Nat) (a0_0 : Int) (a0_1 : ByteArray) (a0_2 : Int) (a0_3 : Int) (l0_4 : List (S69)) : Option (ByteArray) := (syntax_Expr_in.f k a0_0 a0_1 a0_2 a0_3 l0_4 0).bind fun t210 => (some t210)
set_option maxHeartbeats 8000000 in
set_option maxRecDepth 100000 in
theorem syntax_Expr_String.calls (k : Nat) (a0_0 : Int) (a0_1 : ByteArray) (a0_2 : Int) (a0_3 : Int) (A0_4 : Option Addr) (c0_4 : Nat) (l0_4 : List (S69)) (r : ByteArray) (w : World) (hr0_4 : Kd.C k69 w A0_4 l0_4.length l0_4) (hc0_4 : l0_4.length ≤ c0_4) (h : syntax_Expr_String.f k a0_0 a0_1 a0_2 a0_3 l0_4 = some r) (hG : Go.Proofs.YtbcmkkphbkpapaaDoor.TabT w) :
    Calls Tryd.prog 31 #[.agg #[.int .i64 a0_0, .string a0_1, .int .i64 a0_2, .int .i64 a0_3, .slice A0_4 l0_4.length c0_4]] w fun e w' => e = .returned (.string r) ∧ Below w.heap.size w w' := by
  have hu69 := Tryd.underlying69
  have HR0_4 := Aside0.mk hr0_4
  have HC0_4 := Aside0.mk hc0_4
  clear hr0_4 hc0_4
  have HB := Aside0.mk (Below.refl w.heap.size w)
  have H : ((syntax_Expr_in.f k a0_0 a0_1 a0_2 a0_3 l0_4 0).bind fun t210 => (some t210)) = some r := h
  clear h
  replace H := Option.bind_eq_some_iff.mp H
  obtain ⟨t210, A20, H⟩ := H
  replace H : (some t210) = some r := H
  have A2 := Aside0.mk A20
  clear A20
  obtain rfl := Option.some.inj H
  go_enter Tryd.func31, Tryd.ntmps31
  go_wp2_with (first | ((with_reducible refine gate_dst (N := 1) rfl ?_); refine box_event ?hg (N := 1) ?hd (cs := #[.int .i64 a0_0, .string a0_1, .int .i64 a0_2, .int .i64 a0_3, .slice A0_4 l0_4.length c0_4]) (t := 69) ?hr ?_; (case hd => rfl); (case hg => rfl); (case hr => first | (go_simp; done) | (go_simp; rfl)); intro gb209 hg w3 hbox hb; have n0_ := Aside0.mk (below_step (by repeat (first | (with_reducible first | exact HB.out | apply below_alloc | apply pw_below_drewN | apply below_drew1) | exact HB.out)) hb); have n1_ := Aside0.mk (hbox); have n2_ := Aside0.mk ((by rw [hg]; exact (below_size (by repeat (first | (with_reducible first | exact HB.out | apply below_alloc | apply pw_below_drewN | apply below_drew1) | exact HB.out))) : w.heap.size ≤ gb209)); have n3_ := Aside0.mk ((by rw [hg]; exact (below_size (by repeat (first | (with_reducible first | exact HB.out | apply below_alloc | apply pw_below_drewN | apply below_drew1) | exact HB.out))) : w.heap.size ≤ gb209)); clear HB; have HB := n0_; have BK209 := n1_; have GW209 := n2_; have GE209 := n3_; clear n0_ n1_ n2_ n3_; clear hb hbox hg; have hcz4_0 : w3.cell? ⟨gb209, 0, none⟩ = some (.int .i64 a0_0) := (blk_cell BK209.out 0).trans rfl; have hcz4_1 : w3.cell? ⟨gb209, 1, none⟩ = some (.string a0_1) := (blk_cell BK209.out 1).trans rfl; have hcz4_2 : w3.cell? ⟨gb209, 2, none⟩ = some (.int .i64 a0_2) := (blk_cell BK209.out 2).trans rfl; have hcz4_3 : w3.cell? ⟨gb209, 3, none⟩ = some (.int .i64 a0_3) := (blk_cell BK209.out 3).trans rfl; have hcz4_4 : w3.cell? ⟨gb209, 4, none⟩ = some (.slice A0_4 l0_4.length c0_4) := (blk_cell BK209.out 4).trans rfl; have hfz4_0 := blk_frozen BK209.out 0; have hfz4_1 := blk_frozen BK209.out 1; have hfz4_2 := blk_frozen BK209.out 2; have hfz4_3 := blk_frozen BK209.out 3; have hfz4_4 := blk_frozen BK209.out 4) | ((with_reducible refine gate_callee (f := 56) rfl ?_); refine goesL_ (some 4) rfl rfl Tryd.func56 (by kernel_rfl) rfl #[.agg #[.int .i64 a0_0, .string a0_1, .int .i64 a0_2, .int .i64 a0_3, .slice A0_4 l0_4.length c0_4], .int .i64 0] rfl (by (try simp only [List.map_toArray, List.map_cons, List.map_nil]); first | done | rfl | (simp only [List.length_drop, List.length_take]; rfl)) ?_; (with_reducible refine (syntax_Expr_in.calls k a0_0 a0_1 a0_2 a0_3 _ _ l0_4 0 t210 _ ?side1 ?side2 A2.out ?hGl).mono ?_); (case side1 => repeat (first | exact (Kd.C_below HR0_4.out HB.out) | (with_reducible refine Kd.C_alloc ?_ _) | (with_reducible refine Kd.C_drewN ?_ _) | (with_reducible refine Kd.C_drew ?_))); (case side2 => exact HC0_4.out); (case hGl => exact tab_below hG (by repeat (first | (with_reducible first | exact HB.out | apply below_alloc | apply pw_below_drewN | apply below_drew1 | refine below_set ?_ GE209.out) | exact HB.out))); rintro e w5 ⟨rfl, hb⟩; refine ⟨_, rfl, ?_⟩; have n0_ := Aside0.mk (blk_below (g := gb209) (o := .cells #[.int .i64 a0_0, .string a0_1, .int .i64 a0_2, .int .i64 a0_3, .slice A0_4 l0_4.length c0_4] 69 (0, 0)) (by (with_reducible repeat (first | refine blk_drewN ?_ _ | refine blk_drew ?_ | refine blk_alloc ?_ _)); exact BK209.out) hb); have n1_ := Aside0.mk (below_step (by repeat (first | (with_reducible first | exact HB.out | apply below_alloc | apply pw_below_drewN | apply below_drew1 | refine below_set ?_ GE209.out) | exact HB.out)) hb); clear BK209; clear HB; have BK209 := n0_; have HB := n1_; clear n0_ n1_; (try clear hb); (try clear hb2); (try clear hk); (try clear hi)))
  go_ret
  exact ⟨by first | rfl | (simp [errW_none, errW_some] <;> rfl) | (simp [*, errW_none, errW_some] <;> rfl), by repeat (first | (with_reducible first | exact HB.out | apply below_alloc | apply pw_below_drewN | apply below_drew1 | refine below_set ?_ GE209.out) | exact HB.out)⟩
end Go.Proofs.YtbcmkkphbkpapaaDoorPSP
